/- Part. -/
import Derived.Test.YtghmbpmaafnodaaGreatDoorMJ
set_option linter.defProp false
open Option renaming some→I,none→u,bind_some→gh
open Bool renaming true→Y,false→X,and_eq_true→de,or_eq_true_iff→jk,and_false→lm,not_false→mn,false_and→uv,and_self→yz,true_and→zA,not_eq_true'→AB,and_eq_false_iff→BC,not_true→EF,or_self→JK,or_eq_true→LM
open Go.bk.aa renaming int→J,str→Z
open Go.IntKind renaming i64→U
open Nat renaming reduceAdd→bc,lt_succ_self→kl,le_trans→wx,reduceLeDiff→HI,zero_add→RS,pow_succ→TU,le_succ→UV
open List renaming cons_append→cd,take_of_length_le→ef,mem_cons→fg,mem_cons_self→hi,mem_cons_of_mem→ij,length_cons→pq,length_append→rs,append_nil→tu,getElem?_append_right→vw,not_mem_nil→xy,singleton_append→CD,all_eq_true→DE,getElem?_append_left→FG,take→GH,all_cons→IJ,nil_append→KL,take_left'→MN,drop_left'→NO,mem_append→OP,drop_zero→PQ,all_nil→QR
namespace Go.Proofs.YtghmbpmaafnodaaGreatDoor
open Go.bk
def SK{H:ad}{r:Nat}{T:List Tok}{af:aa}{s:am}(d:bF H r T af s):W (al P aj 139 [.ptr r 0 0] H) (dx H r T af (qy T s).1 (qy T s).2):=by
 refine bt (λ_=>VM 0) ?_;have ak:=d.rd.lt;have m:=aw.push H (.row X 9 [[J U 0,Z [],Z [],J U 0,.ag,.ag,.ag,J U 0,J U 0]]);simp(disch:=try exact ah)only[xa,bc,ai];refine aA (Jp (d.av m)) ?_;rintro _ j ⟨rfl,h,e⟩;refine⟨h.1,?_⟩;unfold qy;generalize fJ T s=q at e ⊢;have k:=h.get (ad.a_ H (.row X 9 [[J U 0,Z [],Z [],J U 0,.ag,.ag,.ag,J U 0,J U 0]])) ae;have v:=ad.aF k;simp(disch:=try exact ah)only[bc,ai];have i:=aw.push j (.row X 2 [[Z q.1.2.1,J U q.1.2.2]]);refine aA (k7 (e.av i) [59]) ?_;rintro _ p ⟨rfl,c,n⟩
 refine⟨c.1,?_⟩;have fF:=e.rd.lt;have l:=c.get (i.get k) ae;have o:=c.get (ad.a_ j (.row X 2 [[Z q.1.2.1,J U q.1.2.2]])) ae;have w:=ad.aF l;simp(disch:=try exact ah)only[bc,ai,fI,l,o];exact aD.2 (dx.fin (a:={kind:=1,name:=q.1.1,b5:=q.1.2.1,ci:=q.1.2.2}) d ((((m.mut _).trans h).trans (i.mut _)).trans c) n.rd (bW.nil _ _) (cj.nil _ _) (cj.nil _ _) (aV _) (kl _) _)
def bW.made{H H':ad}{r n lo:Nat}{e:az}{cs:List aa}(c:cb H (aW n) e (.agg cs))(m:bs r H H')(h:r<n)(d:lo<=n)(a:lo<=H'.next):bW (H'.push (.row X 11 [cs])) (aW lo) [e] (.ax H'.next 0 1 11 (I 1)):=
 bW.jw (ro:=false) (ad.a_ _ _) a (c.mut (m.a1 _) (by unfold aW;omega) λl ak=>by unfold aW at*;omega)
def SN{H:ad}{r:Nat}{T:List Tok}{af:aa}{s:am}(ar:T.length<=20000000)(j:bF H r T af s):W (al P aj 140 [.ptr r 0 0] H) (dx H r T af (qW T s).1 (qW T s).2):=by
 refine bt (λ_=>VO 0) ?_;have ak:=j.rd.lt;have C:=aw.push H (.row X 9 [[J U 0,Z [],Z [],J U 0,.ag,.ag,.ag,J U 0,J U 0]]);simp(disch:=try exact ah)only[xc,bc,ai];refine aA (Jp (j.av C)) ?_;rintro _ w ⟨rfl,o,k⟩;refine⟨o.1,?_⟩;unfold qW;generalize fJ T s=q at k ⊢;have y:=o.get (ad.a_ H (.row X 9 [[J U 0,Z [],Z [],J U 0,.ag,.ag,.ag,J U 0,J U 0]])) ae;have Q:=ad.aF y;simp(disch:=try exact ah)only[bc,ai];have p:=aw.push w (.row X 2 [[Z q.1.2.1,J U q.1.2.2]]);refine aA (k7 (k.av p) [61]) ?_;rintro _ N ⟨rfl,e,m⟩
 refine⟨e.1,?_⟩;have fF:=k.rd.lt;have z:=e.get (p.get y) ae;have G:=e.get (ad.a_ w (.row X 2 [[Z q.1.2.1,J U q.1.2.2]])) ae;generalize (bD T [61] q.2).2=M at m ⊢;simp(disch:=try exact ah)only[ai];refine aA (oH ar m) ?_;rintro v x ⟨h,n,i⟩;refine⟨h.1,?_⟩;obtain⟨cs,rfl,B,br⟩:=i.cells;have t1:GH 11 cs=cs:=ef ae;have g6:=h.get z ae;have K:=h.get G ae;generalize cv T M=jO at n i ⊢;simp(disch:=try exact ah)only[bc,ai,B,br,tu];have d:=aw.push x (.row X 11 [cs]);refine aA (k7 (n.av d) [59]) ?_;rintro _ O ⟨rfl,c,F⟩;refine⟨c.1,?_⟩;have V:=n.rd.lt
 have A:=c.get (d.get g6) ae;have L:=c.get (d.get K) ae;have jl:=c.get (ad.a_ x (.row X 11 [cs])) ae;have R:=ad.aF A;have au:∀l,b0 P l 96 1 [(0,.agg cs)]=I (.ax l 0 1 11 (I 1),.row X 11 [cs]):=λl=>fQ l cs B br
 have E:=m.rd.lt;have S:=ad.aF z;simp(disch:=try exact ah)only[bc,ai,fI,A,L,jl,t1,au];exact aD.2 (dx.fin (a:={kind:=2,name:=q.1.1,b5:=q.1.2.1,ci:=q.1.2.2}) j (((((((C.mut _).trans o).trans (p.mut _)).trans e).trans h).trans ((d.mut _).trans c)).a1 _) (F.rd.av (aw.push _ _)) (bW.made i ((d.mut _).trans c) E (lo:=H.next+1) ae ae) (cj.nil _ _) (cj.nil _ _) (aV _) (kl _) _)
def SO{H:ad}{r:Nat}{T:List Tok}{af:aa}{s:am}(ar:T.length<=20000000)(h:bF H r T af s):W (al P aj 144 [.ptr r 0 0] H) (dx H r T af (ri T s).1 (ri T s).2):=by
 refine bt (λ_=>VS 0) ?_;have ak:=h.rd.lt;have o:=aw.push H (.row X 9 [[J U 0,Z [],Z [],J U 0,.ag,.ag,.ag,J U 0,J U 0]]);simp(disch:=try exact ah)only[xg,bc,ai];refine aA (oH ar (h.av o)) ?_;rintro v k ⟨j,i,e⟩;refine⟨j.1,?_⟩;unfold ri;obtain⟨cs,rfl,n,br⟩:=e.cells;have t1:GH 11 cs=cs:=ef ae;have g6:=j.get (ad.a_ H (.row X 9 [[J U 0,Z [],Z [],J U 0,.ag,.ag,.ag,J U 0,J U 0]])) ae;generalize cv T s=jO at i e ⊢;simp(disch:=try exact ah)only[bc,ai,n,br,tu];have d:=aw.push k (.row X 11 [cs])
 refine aA (k7 (i.av d) [59]) ?_;rintro _ q ⟨rfl,c,p⟩;refine⟨c.1,?_⟩;have y:=i.rd.lt;have x:=ad.aF g6;have m:=c.get (d.get g6) ae;have jl:=c.get (ad.a_ k (.row X 11 [cs])) ae;have w:=ad.aF m;have au:∀l,b0 P l 96 1 [(0,.agg cs)]=I (.ax l 0 1 11 (I 1),.row X 11 [cs]):=λl=>fQ l cs n br
 simp(disch:=try exact ah)only[bc,ai,fI,m,jl,t1,au];exact aD.2 (dx.fin (a:={kind:=8}) h ((((o.mut _).trans j).trans ((d.mut _).trans c)).a1 _) (p.rd.av (aw.push _ _)) (bW.made e ((d.mut _).trans c) (by simp only[ad.bb];omega) (lo:=H.next+1) (by simp only[ad.bb];omega) ae) (cj.nil _ _) (cj.nil _ _) (aV _) (kl _) _)
def Md{H0 H:ad}{r:Nat}{T:List Tok}{af:aa}{s0 s:am}(d:bF H0 r T af s0)(k:bs r H0 H)(o:bE H r af s){es:List az}{ev:aa}(j:bW H (aW (H0.next+2)) es ev)(m:H.get H0.next=I (.row X 9 [[J U 0,Z [],Z [],J U 0,.ag,.ag,.ag,J U 0,J U 0]]))(e:H.get (H0.next+1)=I (.row X 9 [bR.cells {kind:=7} ev .ag .ag])):
  W (po (al P aj) (.ptr r 0 0) (.ptr H0.next 0 0) (.ptr (H0.next+1) 0 0) H) (dx H0 r T af (.mk {kind:=7} es [] []) (bD T [59] s).2):=by
 have ak:=d.rd.lt;have jv:=ad.aF e;have n:=j.db;rw[po];refine aA (k7 (d.mut k o) [59]) ?_;rintro _ H1 ⟨rfl,c,p⟩;refine⟨c.1,?_⟩;have h:=c.get m ae;have i:=c.get e ae;have q:=ad.aF h;simp only[bR.cells]at i;simp(disch:=try exact ah)only[bc,ai,fI,h,i,n];exact aD.2 (dx.fin (a:={kind:=7}) d (k.trans c) p.rd (j.aP (cH.mut c (ok':=aW (H0.next+1)) (by unfold aW;omega) λl ak=>by unfold aW at*;omega)) (cj.nil _ _) (cj.nil _ _) (aV _) (kl _) _)
def SP{H:ad}{r:Nat}{T:List Tok}{af:aa}{s:am}(ar:T.length<=20000000)(c:bF H r T af s):W (al P aj 143 [.ptr r 0 0] H) (dx H r T af (nn T s).1 (nn T s).2):=by
 refine bt (λ_=>VR 0) ?_;have ak:=c.rd.lt;simp(disch:=try exact ah)only[xf,bc,ai,fI];have e:=(aw.push H (.row X 9 [[J U 0,Z [],Z [],J U 0,.ag,.ag,.ag,J U 0,J U 0]])).a1 (.row X 9 [bR.cells {kind:=7} .ag .ag .ag]);refine aA (qS (c.rd.av e) (c.ba.av e) 4 [59]) ?_;rintro _ m ⟨rfl,a⟩;refine⟨a.1,?_⟩;have B:=a.1;simp only[ad.bb]at B;have n:m.get H.next=I (.row X 9 [[J U 0,Z [],Z [],J U 0,.ag,.ag,.ag,J U 0,J U 0]]):=a.get (by simp(disch:=try exact ah)only[b7])
 have o:m.get (H.next+1)=I (.row X 9 [bR.cells {kind:=7} .ag .ag .ag]):=a.get (ad.a_ _ _);have k:=(c.av e).av a;unfold nn;cases C:a8 T s 4 [59]with
 |true=>
  simp(disch:=try exact ah)only[ai];exact Md c ((e.trans a).mut _) k.rd (bW.nil _ _) n o
 |false=>
  simp(disch:=try exact ah)only[ai];refine aA (oH ar k) ?_;rintro v i ⟨d,w,j⟩;refine⟨d.1,?_⟩;obtain⟨cs,rfl,A,br⟩:=j.cells;have y:=k.rd.lt;have x:=d.get n ae;have p:=d.get o ae;have dt:=ad.aF p;generalize cv T s=jO at w j ⊢;have au:∀l,b0 P l 96 1 [(0,.agg cs)]=I (.ax l 0 1 11 (I 1),.row X 11 [cs]):=λl=>fQ l cs A br
  have q:=p;simp only[bR.cells]at q;simp(disch:=try exact ah)only[bc,HI,ai,au,q];have z:=((e.trans a).mut (· =r)).trans d;have E:=d.1;refine Md c (H:=(i.push (.row X 11 [cs])).set (H.next+1) (.row X 9 [bR.cells {kind:=7} (.ax i.next 0 1 11 (I 1)) .ag .ag])) (es:=[jO.1]) (ev:= .ax i.next 0 1 11 (I 1)) ?_ ?_ ?_ ?_ ?_
  ·exact(z.a1 _).bH (.inr ae) _
  ·have h:=w.rd;unfold bE at h ⊢;rw[ad.get_set_other ae,ad.dv ae];exact h
  ·exact(bW.made j (bV.refl _ _) y (lo:=H.next+2) ae ae).aP (cH.set _ (by unfold aW;omega) λ_ h=>h)
  ·simp(disch:=try exact ah)only[b7,x]
  ·exact ad.get_set_same (by simp only[ad.bb];omega)
def cb.below{H:ad}{ok:Nat->Prop}{e:az}{v:aa}(h:cb H ok e v):cb H (λl=>ok l/\l<H.next) e v:=cb.aP (λ_ _ _ h g=>⟨⟨h,ad.aF g⟩,g⟩) e v h
def mQ.fin{ok:Nat->Prop}{H b6:ad}{r:Nat}{T:List Tok}{af:aa}{s s':am}{a:bR}{es:List az}{ev:aa}{x:Nat}(e:bF H r T af s)(m:bs r H b6)(d:bE b6 r af s')(i:bW b6 (λl=>ok l/\l≠x) es ev)(j:H.next<=x)(c:b_):
  mQ ok H r T af (.mk a es [] []) s' (.agg (a.cells ev .ag .ag)) (b6.set x c):=by
 have ak:=e.rd.lt;have m':=m.bH (.inr j) c;refine⟨m',e.mut m' ?_,mS.2 ⟨ev,.ag,.ag,rfl,i.aP (cH.set _ (by simp) λl h=>h.1),cj.nil _ _,cj.nil _ _⟩⟩;unfold bE at d ⊢;rw[ad.get_set_other ae];exact d
def aaK{ok:Nat->Prop}{H0 H:ad}{r:Nat}{T:List Tok}{af:aa}{s0 s:am}(ar:T.length<=20000000)(i:bF H0 r T af s0)(L:bs r H0 H)(an:bE H r af s){a:bY}{ks:List az}{kv:aa}(k:cb H0 ok (.mk a ks) (.agg (a.cells kv)))(ab:¬ok r)(m:∀l,H0.next<=l->ok l)
  (N:H.get H0.next=I (.row X 11 [a.cells kv])) (z:H.get (H0.next+1)=I (.row X 9 [[J U 0,Z [],Z [],J U 0,.ag,.ag,.ag,J U 0,J U 0]])):
  W (nx (al P aj) (.ptr r 0 0) (.ptr H0.next 0 0) (.ptr (H0.next+1) 0 0) H) (mQ ok H0 r T af (bif a.kind==4 then .mk {kind:=3,name:=a.name} [(cv T (bD T [61] s).2).1] [] []else .mk {kind:=4} [.mk a ks,(cv T (bD T [61] s).2).1] [] []) (bD T [59] (cv T (bD T [61] s).2).2).2):=by
 have ak:=i.rd.lt;have aB:=ad.aF z;rw[nx];refine aA (k7 (i.mut L an) [61]) ?_;rintro _ H1 ⟨rfl,d,o⟩;refine⟨d.1,?_⟩;have aG:=d.1;generalize (bD T [61] s).2=s1 at o ⊢;simp(disch:=try exact ah)only[ai];refine aA (oH ar o) ?_;rintro v y ⟨e,p,n⟩;refine⟨e.1,?_⟩;have n2:=e.1;obtain⟨cs,rfl,aQ,br⟩:=n.cells;generalize cv T s1=aE at p n ⊢;simp(disch:=try exact ah)only[bc,ai,aQ,br,tu];have j:=aw.push y (.row X 11 [cs]);refine aA (k7 (p.av j) [59]) ?_;rintro _ M ⟨rfl,c,E⟩;refine⟨c.1,?_⟩;have ap:=c.1;simp only[ad.bb]at ap;have fF:=p.rd.lt;have q:=c.get (j.get (e.get (d.get N ae) ae)) ae
 have w:=c.get (j.get (e.get (d.get z ae) ae)) ae;have G:=c.get (ad.a_ y (.row X 11 [cs])) ae;have aC:=ad.aF w;have K:=(j.mut (· =r)).trans c;have x:=(((L.trans d).trans e).trans K);have t1:GH 11 cs=cs:=ef ae;have V:∀l,aW H1.next l->ok l/\l≠H0.next+1:=λl h=>by
  unfold aW at h;exact⟨m l ae,ae⟩
 have C:=n.mut (ok':=λl=>ok l/\l≠H0.next+1) K (by unfold aW;have:=o.rd.lt;omega) V;have ay:=bW.db (gq.1 k).choose_spec.2;obtain⟨ao,S,R⟩:=gq.1 k;have B:=R.db;have Q:ao=kv:=by
  have:=congrArg (λv=>match v with|aa.agg cs=>cs[5]? |_=>u) S;simpa [bY.cells]using this.symm
 rw[Q]at B;have O:cb M (λl=>ok l/\l≠H0.next+1) (.mk a ks) (.agg (a.cells kv)):=k.below.mut x (λh=>ab h.1) λl h=>⟨h.1,ae⟩
 have aq:(a.cells kv).all aa.one=true:=by simp only[bY.cells,IJ,QR,eO,fk,B,yz]
 cases A:a.kind==4 with
 |true=>
  have au:∀l,b0 P l 96 1 [(0,.agg cs)]=I (.ax l 0 1 11 (I 1),.row X 11 [cs]):=λl=>fQ l cs aQ br
  simp only[bY.cells]at q;simp(disch:=try exact ah)only[bc,ai,fI,q,w,G,A,t1,au];exact aD.2 (mQ.fin (a:={kind:=3,name:=a.name}) i (x.a1 _) (E.rd.av (aw.push _ _)) (bW.jw (ro:=false) (ad.a_ _ _) ⟨m _ ae,ae⟩ (C.av (aw.push _ _))) ae _)
 |false=>
  have au:∀l,b0 P l 96 2 [(0,.agg (a.cells kv)),(1,.agg cs)]=I (.ax l 0 2 11 (I 2),.row X 11 [a.cells kv,cs]):=λl=>sv l (a.cells kv) cs rfl aq aQ br
  have F:=q;simp only[bY.cells]at F au;simp(disch:=try exact ah)only[bc,ai,fI,F,w,G,A,t1,au];exact aD.2 (mQ.fin (a:={kind:=4}) i (x.a1 _) (E.rd.av (aw.push _ _)) (bW.sA (ro:=false) (ad.a_ _ _) ⟨m _ ae,ae⟩ (O.av (aw.push _ _)) (C.av (aw.push _ _))) ae _)
def SQ{ok:Nat->Prop}{H:ad}{r:Nat}{T:List Tok}{af:aa}{s:am}(ar:T.length<=20000000)(w:bF H r T af s){e:az}{v:aa}(x:cb H ok e v)(E:¬ok r)(C:∀l,H.next<=l->ok l):W (al P aj 138 [.ptr r 0 0,v] H) (mQ ok H r T af (n5 T e s).1 (n5 T e s).2):=by
 refine bt (λ_=>VL 0) ?_;have ak:=w.rd.lt;cases e with|mk a ks=>
 obtain⟨kv,rfl,A⟩:=gq.1 x;have B:=A.db;have G:(a.cells kv).all aa.one=true:=by simp only[bY.cells,IJ,QR,eO,fk,B,yz]
 have n:∀l,cg l (.agg (a.cells kv))=I (.ptr l 0 0,.row X 11 [a.cells kv]):=λl=>ei l _ G
 simp only[bY.cells]at n ⊢;have o:=(aw.push H (.row X 11 [a.cells kv])).a1 (.row X 9 [[J U 0,Z [],Z [],J U 0,.ag,.ag,.ag,J U 0,J U 0]]);have p:=w.av o;have fin:∀(c:ad),bs r H c->bE c r af (bif eS (.mk a ks)then bx T 2 s else s)->c.get H.next=I (.row X 11 [a.cells kv])->c.get (H.next+1)=I (.row X 9 [[J U 0,Z [],Z [],J U 0,.ag,.ag,.ag,J U 0,J U 0]])->
  W (nx (al P aj) (.ptr r 0 0) (.ptr H.next 0 0) (.ptr (H.next+1) 0 0) c) (mQ ok H r T af (n5 T (.mk a ks) s).1 (n5 T (.mk a ks) s).2):=λc m z h j=>aaK ar w m z x E C h j
 have h:((H.push (.row X 11 [a.cells kv])).push (.row X 9 [[J U 0,Z [],Z [],J U 0,.ag,.ag,.ag,J U 0,J U 0]])).get H.next=I (.row X 11 [a.cells kv]):=by simp(disch:=try exact ah)only[b7]
 have j:=ad.a_ (H.push (.row X 11 [a.cells kv])) (.row X 9 [[J U 0,Z [],Z [],J U 0,.ag,.ag,.ag,J U 0,J U 0]]);have y:=h;simp only[bY.cells]at y;cases d:(a.kind != 4)with
 |false=>
  have i:eS (.mk a ks)=false:=by simp only[eS,az.kind,d,uv]
  rw[i]at fin;simp(disch:=try exact ah)only[ph,bc,ai,n,d];exact fin _ (o.mut _) p.rd h j
 |true=>
  cases k:(a.kind != 5)with
  |false=>
   have i:eS (.mk a ks)=false:=by simp only[eS,az.kind,d,k,uv,lm]
   rw[i]at fin;simp(disch:=try exact ah)only[ph,bc,ai,n,d,k];exact fin _ (o.mut _) p.rd h j
  |true=>
   cases q:(a.kind != 6)with
   |false=>
    have i:eS (.mk a ks)=false:=by simp only[eS,az.kind,d,k,q,lm]
    rw[i]at fin;simp(disch:=try exact ah)only[ph,bc,ai,n,d,k,q];exact fin _ (o.mut _) p.rd h j
   |true=>
    have i:eS (.mk a ks)=true:=by simp only[eS,az.kind,d,k,q,yz]
    rw[i]at fin;simp(disch:=try exact ah)only[ph,bc,ai,n,d,k,q];refine aA (qO p 2) ?_;rintro _ c ⟨rfl,m,F⟩;refine⟨m.1,?_⟩;exact fin c ((o.mut _).trans m) F.rd (m.get h ae) (m.get j (by simp only[ad.bb]at*;omega))
def BZ{H0 H:ad}{r:Nat}{T:List Tok}{af:aa}{s0 s:am}(d:bF H0 r T af s0)(j:bs r H0 H)(p:bE H r af s){e:az}{cs:List aa}{b:Nat}(i:cb H (aW (H0.next+1)) e (.agg cs))(w:H0.next<b)(k:H.get H0.next=I (.row X 9 [[J U 0,Z [],Z [],J U 0,.ag,.ag,.ag,J U 0,J U 0]]))(m:H.get b=I (.row X 11 [cs])):
  W (pf (al P aj) (.ptr r 0 0) (.ptr H0.next 0 0) (.ptr b 0 0) H) (dx H0 r T af (.mk {kind:=9} [e] [] []) (bD T [59] s).2):=by
 have ak:=d.rd.lt;rw[pf];refine aA (k7 (d.mut j p) [59]) ?_;rintro _ H1 ⟨rfl,c,q⟩;refine⟨c.1,?_⟩;obtain⟨v,o,aQ,br⟩:=i.cells;cases o;have h:=c.get k ae;have n:=c.get m ae;have x:=ad.aF h;have t1:GH 11 cs=cs:=ef ae;have au:∀l,b0 P l 96 1 [(0,.agg cs)]=I (.ax l 0 1 11 (I 1),.row X 11 [cs]):=λl=>fQ l cs aQ br
 simp(disch:=try exact ah)only[bc,ai,fI,h,n,t1,au];exact aD.2 (dx.fin (a:={kind:=9}) d ((j.trans c).a1 _) (q.rd.av (aw.push _ _)) (bW.made i c ae (lo:=H0.next+1) ae ae) (cj.nil _ _) (cj.nil _ _) (aV _) (kl _) _)
def Jn{H:ad}{r:Nat}{T:List Tok}{af:aa}{s:am}(ar:T.length<=20000000)(d:bF H r T af s):W (al P aj 124 [.ptr r 0 0] H) (dx H r T af (jA T s).1 (jA T s).2):=by
 refine bt (λ_=>VC 0) ?_;have ak:=d.rd.lt;have O:=aw.push H (.row X 9 [[J U 0,Z [],Z [],J U 0,.ag,.ag,.ag,J U 0,J U 0]]);simp(disch:=try exact ah)only[w3,bc,ai];refine aA (oH ar (d.av O)) ?_;rintro v F ⟨p,n,A⟩;refine⟨p.1,?_⟩;have n2:=p.1;simp only[ad.bb]at n2;unfold jA;obtain⟨cs,rfl,aQ,br⟩:=A.cells;have t1:GH 11 cs=cs:=ef ae;have S:=p.get (ad.a_ H (.row X 9 [[J U 0,Z [],Z [],J U 0,.ag,.ag,.ag,J U 0,J U 0]])) ae;generalize cv T s=aE at n A ⊢;simp(disch:=try exact ah)only[bc,ai,aQ,br,tu]
 have E:=aw.push F (.row X 11 [cs]);refine aA (qS (n.rd.av E) (n.ba.av E) 4 [61]) ?_;rintro _ Q ⟨rfl,x⟩;refine⟨x.1,?_⟩;have an:=x.1;simp only[ad.bb]at an;have q:=E.trans x;have z:=q.get S;have eI:=ad.aF z;have cc:=x.get (ad.a_ F (.row X 11 [cs]));have L:cb Q (aW (H.next+1)) aE.1 (.agg cs):=cb.aP (cH.av q λl ak=>by unfold aW at*;simp only[ad.bb]at ak;omega) _ _ A;have N:=((O.mut (· =r)).trans p).trans (q.mut _);have o:=n.av q;cases aq:a8 T aE.2 4 [61]with
 |true=>
  simp(disch:=try exact ah)only[ai,cc,t1];refine aA (SQ ar o L (by unfold aW;omega) (λl ak=>by unfold aW;omega)) ?_;rintro w R ⟨B,j,M⟩;refine⟨B.1,?_⟩;obtain⟨G,rfl,d1,bI⟩:=M.cells;have kJ:GH 9 G=G:=ef ae;have c:=B.get z ae;have au:=ad.aF c;simp(disch:=try exact ah)only[ai,fI,c,d1,bI,kJ,tu];exact aD.2 (dx.ret d (N.trans B) j.rd (aV _) M (kl _) _)
 |false=>
  simp(disch:=try exact ah)only[ai];refine aA (qS o.rd o.ba 4 [59]) ?_;rintro _ R ⟨rfl,e⟩;refine⟨e.1,?_⟩;have dk:=e.get cc;have c:=e.get z;have j:=o.av e;have i:=L.av e;have C:=N.trans (e.mut _);cases ap:a8 T aE.2 4 [59]with
  |false=>
   simp(disch:=try exact ah)only[ai];simp only[uv,aH];exact BZ d C j.rd i ae c dk
  |true=>
   rcases V:aE.1 with⟨a,ks⟩;rw[V]at i;obtain⟨kv,K,-⟩:=gq.1 i;simp only[aa.agg.injEq]at K;subst K;have y:=dk;simp only[bY.cells]at y;cases m:(a.kind != 7)with
   |false=>
    simp(disch:=try exact ah)only[ai,y,m];simp only[az.kind,m,lm,aH];exact BZ d C j.rd i ae c dk
   |true=>
    simp(disch:=try exact ah)only[ai,y,m];simp only[az.kind,m,yz,aK];refine aA (qO j 2) ?_;rintro _ ao ⟨rfl,k,ab⟩;refine⟨k.1,?_⟩;exact BZ d (C.trans k) ab.rd (i.mut k (by unfold aW;omega) λ_ h=>h) ae (k.get c ae) (k.get dk ae)
def dy.append{H:ad}{ok:Nat->Prop}:∀(es:List a6) (cs:List (List aa)) (e:a6) (c:List aa),dy H ok es cs->cs.length=es.length->fT H ok e (.agg c)->dy H ok (es++[e]) (cs++[c])
 |[],[],e,c,_,_,h=>by
  simp only[KL];rw[dy,dy];exact⟨h,trivial⟩
 |[],_::_,e,c,_,ak,_=>by simp at ak
 |_::_,[],e,c,h,_,_=>by rw[dy]at h;exact h.elim
 |ap::es,aQ::cs,e,c,h,ak,a=>by
  rw[dy]at h;simp only[cd];rw[dy];exact⟨h.1,dy.append es cs e c h.2 (by simpa using ak) a⟩
def DK:P.underlying 44=I (.slice 98):=M
def FO:j5 P 98=I 136:=M
def z6:fV P 98=I (.agg [J U 0,Z [],Z [],J U 0,.ag,.ag,.ag,J U 0,J U 0]):=M
def PT{H:ad}{L:Nat}{cs:List aa}{cap:Option Nat}{ro:Bool}(a:H.get L=I (.row ro 9 [cs])):c_ P H [44,44] .ag (.ax L 0 1 9 cap)=I (.ax H.next 0 1 9 u,H.push (.row X 9 [cs])):=by
 simp[c_,DK,sz,FO,z6,kb,iy,a,aa.cells]
def PU{H:ad}{L l n:Nat}{cs:List aa}{els:List (List aa)}{cap:Option Nat}{ro:Bool}(d:H.get L=I (.row ro 9 [cs]))(ak:H.get l=I (.row X 9 els))(e:els.length=n)(h:n<=1000000000):c_ P H [44,44] (.ax l 0 n 9 u) (.ax L 0 1 9 cap)=I (.ax H.next 0 (n+1) 9 u,(H.set l .dead).push (.row X 9 (els++[cs]))):=by
 have a:(n+1)*136<=140737488355328:=ae;have c:n+1<=9223372036854775807:=ae;simp[c_,DK,sz,FO,z6,kb,iy,d,ak,aa.cells,e,a,c];rw[ef ae]
def MW(l:Nat)(cs:List aa)(h:cs.length=9)(a:cs.all aa.one=Y):b0 P l 44 1 [(0,.agg cs)]=I (.ax l 0 1 9 (I 1),.row X 9 [cs]):=by
 simp[b0,DK,sz,z6,aa.cells,jg,h,a,eO,fk,q4]
def kP(a:Nat)(H:ad)(l:List a6)(v:aa):Prop:=(v= .ag/\l=[])\/∃L els,v= .ax L 0 l.length 9 u/\H.get L=I (.row X 9 els)/\a<=L/\els.length=l.length/\dy H (λk=>a<=k/\k≠L) l els
def kP.mut{a r:Nat}{H H':ad}{l:List a6}{v:aa}(h:kP a H l v)(m:bs r H H')(c:r<a):kP a H' l v:=by
 rcases h with h|⟨L,els,ap,aE,bB,cc,dk⟩
 ·exact .inl h
 ·exact .inr ⟨L,els,ap,m.get aE ae,bB,cc,dy.aP (dc.mut m ae λ_ h=>h) _ _ dk⟩
def kP.y7{a:Nat}{H:ad}{l:List a6}{v:aa}(h:kP a H l v):cj H (aW a) l v:=by
 rcases h with⟨rfl,rfl⟩|⟨L,els,ap,aE,bB,cc,dk⟩
 ·exact cj.nil _ _
 ·exact .inr (.inl ⟨L,0,u,X,els,ap,bB,aE,by rw[PQ];exact dy.aP (dc.jt λ_ h=>h.1) _ _ dk⟩)
def kP.app{d m:Nat}{H:ad}{l:List a6}{v:aa}(h:kP d H l v){e:a6}{cs:List aa}(j:fT H (aW m) e (.agg cs))(x:d<=m)(s:∀L n c,v= .ax L 0 n 9 c->L<m)(y:d<=H.next)(ak:l.length<=1000000000):
  ∃p H',c_ P (H.push (.row X 9 [cs])) [44,44] v (.ax H.next 0 1 9 (I 1))=I (p,H')/\kP d H' (l++[e]) p/\bV (d<= ·) H H'/\H.next+1<=H'.next:=by
 have o:=ad.a_ H (.row X 9 [cs]);rcases h with⟨rfl,rfl⟩|⟨L,els,rfl,aE,bB,cc,dk⟩
 ·refine⟨_,_,PT o,.inr ⟨_,[cs],rfl,ad.a_ _ _,by simp only[ad.bb];omega,rfl,?_⟩,(((aw.push _ _).a1 _).mut _),by simp only[ad.bb];omega⟩;rw[KL,dy,dy];refine⟨fT.aP ⟨λk ro els a g=>⟨⟨by unfold aW at a;omega,?_⟩,((aw.push _ _).a1 _).get g⟩,λk ro els a g=>⟨⟨by unfold aW at a;omega,?_⟩,((aw.push _ _).a1 _).get g⟩⟩ e _ j,trivial⟩
  all_goals have:=ad.aF g;simp only[ad.bb];omega
 ·have w:=s L _ _ rfl;have z:=ad.aF aE;have q:(H.push (.row X 9 [cs])).get L=I (.row X 9 els):=(aw.push _ _).get aE;have i:∀k b,H.get k=I b->k≠L->(((H.push (.row X 9 [cs])).set L .dead).push (.row X 9 (els++[cs]))).get k=I b:=λk b g a=>by
   have:=ad.aF g;rw[ad.dv (by simp only[ad.cL,ad.bb];omega),ad.get_set_other ae,ad.dv ae];exact g
  refine⟨_,_,PU o q cc ak,.inr ⟨_,els++[cs],by rw[rs];rfl,ad.a_ _ _,by simp only[ad.cL,ad.bb];omega,by simp[cc],?_⟩,?_,by simp only[ad.cL,ad.bb];omega⟩
  ·refine dy.append _ _ _ _ (dy.aP ⟨λk ro es a g=>⟨⟨a.1,?_⟩,i _ _ g a.2⟩,λk ro es a g=>⟨⟨a.1,?_⟩,i _ _ g a.2⟩⟩ _ _ dk) cc (fT.aP ⟨λk ro es a g=>⟨⟨by unfold aW at a;omega,?_⟩,i _ _ g (by unfold aW at a;omega)⟩,λk ro es a g=>⟨⟨by unfold aW at a;omega,?_⟩,i _ _ g (by unfold aW at a;omega)⟩⟩ e _ j)
   all_goals have:=ad.aF g;simp only[ad.cL,ad.bb];omega
  ·exact(((aw.push _ _).mut _).bH (.inl bB) _).a1 _
def sN(n:Nat):Prop:=∀{H:ad} {r:Nat} {T:List Tok} {af:aa} {s:am},T.length<=20000000->bF H r T af s->∀(e:a6) (s':am),n6 T n s=I (e,s')->W (al P aj 106 [.ptr r 0 0] H) (dx H r T af e s')
def u0(n:Nat):Prop:=∀{H:ad} {r:Nat} {T:List Tok} {af:aa} {s:am},T.length<=20000000->bF H r T af s->∀(l:List a6) (s':am),iz T n s=I (l,s')->W (al P aj 74 [.ptr r 0 0] H) λv H'=>bs r H H'/\bF H' r T af s'/\cj H' (aW H.next) l v
def zt(n:Nat):Prop:=∀{H:ad} {r:Nat} {T:List Tok} {af:aa} {s:am},T.length<=20000000->bF H r T af s->∀(e:a6) (s':am),mY T n s=I (e,s')->W (al P aj 141 [.ptr r 0 0] H) (dx H r T af e s')
def zL(n:Nat):Prop:=∀{H:ad} {r:Nat} {T:List Tok} {af:aa} {s:am},T.length<=20000000->bF H r T af s->∀(e:a6) (s':am),nk T n s=I (e,s')->W (al P aj 142 [.ptr r 0 0] H) (dx H r T af e s')
def Ot{N M:Nat}(G:∀k,k<N->sN k){H0:ad}{r:Nat}{T:List Tok}{af:aa}{s0:am}(ar:T.length<=20000000)(z:bF H0 r T af s0):
  ∀(n m:Nat),n<=N->n<m->∀(H:ad) (s:am) (l:List a6) (v:aa),bs r H0 H->bE H r af s->l.length+n<=1000000000->kP H0.next H l v->∀(l':List a6) (s':am),i6 T n l s=I (l',s')->
   W (o9 (al P aj) M m (.ptr r 0 0) (Z [125]) (.func (.func 106) [.ptr r 0 0] []) v H) λv H'=>bs r H0 H'/\bF H' r T af s'/\cj H' (aW H0.next) l' v
 |0,m,A,F,H,s,l,v,a,e,E,i,l',s',h=>by simp[i6]at h
 |n+1,0,A,F,H,s,l,v,a,e,E,i,l',s',h=>ae
 |n+1,m+1,A,F,H,s,l,v,a,e,E,i,l',s',h=>by
  have ak:=z.rd.lt;have aI:=a.1;have q:=z.mut a e;simp only[i6]at h;simp only[o9];rw[wQ];refine aA (qP e) ?_;rintro _ H1 ⟨rfl,rfl⟩;refine⟨aV _,?_⟩;by_cases j:s.an=0
  ·have o:(s.an==0)=true:=by simp[j]
   simp(disch:=try exact ah)only[ai,j,bne_self_eq_false,mn];refine dZ (qS e q.ba 4 [125]) ?_;rintro _ aE ⟨rfl,d⟩;refine⟨d.1,?_⟩;have y:=i.mut (d.mut (· =r)) ak;cases C:a8 T s 4 [125]with
   |true=>
    simp only[o,C,EF,lm,aH,aT,bS]at h;obtain⟨rfl,rfl⟩:=h;simp(disch:=try exact ah)only[o8,ai,EF];exact aD.2 ⟨a.trans (d.mut _),q.av d,y.y7⟩
   |false=>
    simp only[o,C,mn,yz,aK,ct]at h;obtain⟨⟨ap,s1⟩,O,Q⟩:=h;simp(disch:=try exact ah)only[ai,kO,tu,mn];refine aA (G n ae ar (q.av d) ap s1 O) ?_;rintro w aG ⟨x,ay,B⟩;refine⟨x.1,?_⟩;obtain⟨cs,rfl,aQ,br⟩:=B.cells;have V:=y.mut x ak;have aL:=x.1;have n2:=d.1;obtain⟨aC,H',R,S,K,aJ⟩:=V.app B ae (λL k c p=>by
     rcases y with⟨aX,_⟩|⟨L',els,aX,aB,_⟩
     ·rw[aX]at p;cases p
     ·rw[aX]at p;cases p;exact ad.aF aB) ae ae
    have au:=λl=>MW l cs aQ br
    simp(disch:=try exact ah)only[ai,au,R,gF];have az:bs r H0 H':=⟨by have:=a.1;omega,λk ao aq=>by
     rw[K.2 k ae ae];exact((a.trans (d.mut _)).trans x).2 k ao aq⟩
    have aw:bE H' r af s1:=K.get ay.rd ae;exact Ot G ar z n m ae ae H' s1 (l++[ap]) aC az aw (by simp only[rs,pq,List.length_nil];omega) S l' s' Q
  ·have o:(s.an==0)=false:=by simpa using j
   have ab:(s.an != 0)=true:=by simpa using j
   simp only[o,uv,aH,aT,bS]at h;obtain⟨rfl,rfl⟩:=h;simp(disch:=try exact ah)only[o8,ai,ab,EF];exact aD.2 ⟨a,q,i.y7⟩
def abQ{n:Nat}(d:∀k,k<n->sN k)(c:n<=1000000000){H:ad}{r:Nat}{T:List Tok}{af:aa}{s:am}(ar:T.length<=20000000)(a:bF H r T af s){l:List a6}{s':am}(h:i6 T n [] s=I (l,s')):
  W (al P aj 105 [.ptr r 0 0,Z [125],.func (.func 106) [.ptr r 0 0] []] H) λv H'=>bs r H H'/\bF H' r T af s'/\cj H' (aW H.next) l v:=by
 refine bt (λ_=>Vn (n+1)) ?_;rw[wP];exact Ot d ar a n (n+1) (aV _) ae H s [] .ag (bV.refl _ _) a.rd (by simpa using c) (.inl ⟨rfl,rfl⟩) l s' h
def Qt{n:Nat}(K:n<=1000000000)(O:∀k,k<n->sN k):u0 (n+1):=by
 intro H r T af s ar e l s' h;refine bt (λ_=>Xg 0) ?_;have ak:=e.rd.lt;have R:=e.ba.one;rw[yI];refine aA (qS e.rd e.ba 4 [123]) ?_;rintro _ H1 ⟨rfl,d⟩;refine⟨d.1,?_⟩;have c:=e.av d;simp only[iz]at h;have m:=c.rd;unfold bE at m;cases w:a8 T s 4 [123]with
 |false=>
  simp only[w,aH,aT,bS]at h;obtain⟨rfl,rfl⟩:=h;simp(disch:=try exact ah)only[ai,mn];refine aA (qO c 2) ?_;rintro _ B ⟨rfl,a,i⟩;refine⟨a.1,?_⟩;exact aD.2 ⟨(d.mut _).trans a,i,cj.nil _ _⟩
 |true=>
  simp only[w,aK]at h;by_cases j:50<=s.aY
  ·rw[if_pos j]at h;simp only[aT,bS]at h;obtain⟨rfl,rfl⟩:=h;simp(disch:=try exact ah)only[ai,EF,m,j,decide_true];refine aA (qO c 4) ?_;rintro _ B ⟨rfl,a,i⟩;refine⟨a.1,?_⟩;exact aD.2 ⟨(d.mut _).trans a,i,cj.nil _ _⟩
  ·rw[if_neg j]at h;simp only[ct]at h;obtain⟨⟨S,s1⟩,C,q⟩:=h;simp only[aT,bS]at q;obtain⟨rfl,rfl⟩:=q;obtain⟨a,E⟩:=eL c.rd {s with at_:=dY (s.at_+1),aY:=dY (s.aY+1)};have i:=c.mut a E;have V:=c.rd.lt;simp(disch:=try exact ah)only[bc,HI,ai,EF,m,j,decide_false];refine aA (abQ O K ar i C) ?_;rintro v P ⟨A,z,L⟩;refine⟨A.1,?_⟩;have x:=z.rd;have y:=x;unfold bE at y;obtain⟨o,F⟩:=eL x (dA s1);have M:=z.mut o F;simp(disch:=try exact ah)only[bc,HI,ai,y];refine aA (k7 M [125]) ?_;rintro _ Q ⟨rfl,p,N⟩;have W:=d.1;refine⟨p.1,?_⟩;exact aD.2 ⟨((((d.mut _).trans a).trans A).trans o).trans p,N,L.aP (dc.mut (o.trans p) (by unfold aW;simp only[ad.cL];omega) λk G=>by unfold aW at*;simp only[ad.cL]at G;omega)⟩
def ce(H:ad)(ok:Nat->Prop)(H':ad)(ok':Nat->Prop):Prop:=∀l b,ok l->H.get l=I b->ok' l/\H'.get l=I b
def ce.s{H H':ad}{ok ok':Nat->Prop}(h:ce H ok H' ok'):dc H ok H' ok':=⟨λl _ _ a b=>h l _ a b,λl _ _ a b=>h l _ a b⟩
def ce.le{H:ad}{ok ok':Nat->Prop}(h:∀l,ok l->ok' l):ce H ok H ok':=λl _ a b=>⟨h l a,b⟩
def ce.mut{H H':ad}{ok:Nat->Prop}{S:Nat->Prop}(m:bV S H H')(h:∀l,ok l->¬S l):ce H ok H' ok:=λl _ a b=>⟨a,m.get b (h l a)⟩
def ce.av{H H':ad}{ok:Nat->Prop}(m:aw H H'):ce H ok H' ok:=λ_ _ a b=>⟨a,m.get b⟩
def ce.trans{H1 d e:ad}{a b c:Nat->Prop}(h:ce H1 a d b)(k:ce d b e c):ce H1 a e c:=λl x y z=>k l x (h l x y z).1 (h l x y z).2
structure ja(α:Type) where
 esz:Nat
 V:ad->(Nat->Prop)->α->List aa->Prop
 len:∀{H ok a cs},V H ok a cs->cs.length=esz/\cs.all aa.one=true
 aP:∀{H ok H' ok'} {a:α} {cs},ce H ok H' ok'->V H ok a cs->V H' ok' a cs
section
variable {α:Type}{K:ja α}{H H':ad}{ok ok':Nat->Prop}
def c1(K:ja α)(ok:Nat->Prop)(H:ad)(l:List α)(v:aa):Prop:=(v= .ag/\l=[])\/∃L els,v= .ax L 0 l.length K.esz u/\ok L/\H.get L=I (.row X K.esz els)/\els.length=l.length/\∀(i:Nat) (a:α),l[i]? =I a->∃cs,els[i]? =I cs/\K.V H (λk=>ok k/\k≠L) a cs
def cf(K:ja α)(H:ad)(ok:Nat->Prop)(l:List α)(v:aa):Prop:=(v= .ag/\l=[])\/(∃L i cap ro els,v= .ax L i l.length K.esz (Option.map (· +l.length) cap)/\ok L/\H.get L=I (.row ro K.esz els)/\∀(j:Nat) (a:α),l[j]? =I a->∃cs,els[i+j]? =I cs/\K.V H ok a cs)\/∃L i cap,v= .ax L i 0 K.esz cap/\l=[]
def c1.one{l:List α}{v:aa}(h:c1 K ok H l v):v.one=true:=by
 rcases h with⟨rfl,_⟩|⟨L,els,rfl,_⟩<;>rfl
def cf.one{l:List α}{v:aa}(h:cf K H ok l v):v.one=true:=by
 rcases h with⟨rfl,_⟩|⟨L,i,cap,ro,els,rfl,_⟩|⟨L,i,cap,rfl,_⟩<;>rfl
def c1.nil:c1 K ok H [] .ag:= .inl ⟨rfl,rfl⟩
def cf.nil:cf K H ok [] .ag:= .inl ⟨rfl,rfl⟩
def c1.aP{l:List α}{v:aa}(p:ce H ok H' ok')(h:c1 K ok H l v):c1 K ok' H' l v:=by
 rcases h with h|⟨L,els,ap,aE,bB,cc,dk⟩
 ·exact .inl h
 ·refine .inr ⟨L,els,ap,(p _ _ aE bB).1,(p _ _ aE bB).2,cc,λi a d=> ?_⟩;obtain⟨cs,aX,e⟩:=dk i a d;exact⟨cs,aX,K.aP (λk b c g=>⟨⟨(p _ _ c.1 g).1,c.2⟩,(p _ _ c.1 g).2⟩) e⟩
def cf.aP{l:List α}{v:aa}(p:ce H ok H' ok')(h:cf K H ok l v):cf K H' ok' l v:=by
 rcases h with h|⟨L,i,cap,ro,els,ap,aE,bB,dk⟩|h
 ·exact .inl h
 ·refine .inr (.inl ⟨L,i,cap,ro,els,ap,(p _ _ aE bB).1,(p _ _ aE bB).2,λj a c=> ?_⟩);obtain⟨cs,aX,d⟩:=dk j a c;exact⟨cs,aX,K.aP p d⟩
 ·exact .inr (.inr h)
def c1.ax{l:List α}{v:aa}(h:c1 K ok H l v):cf K H ok l v:=by
 rcases h with h|⟨L,els,ap,aE,bB,cc,dk⟩
 ·exact .inl h
 ·refine .inr (.inl ⟨L,0,u,X,els,ap,aE,bB,λj a c=> ?_⟩);obtain⟨cs,aX,d⟩:=dk j a c;exact⟨cs,by rw[RS];exact aX,K.aP (ce.le λ_ h=>h.1) d⟩
structure jb(t e esz:Nat):Prop where
 un:P.underlying t=some (.slice e)
 ts:cS P e=some esz
 iP:∃b,j5 P e=some b/\b<=200
 z1:∃z,fV P e=some z/\z.cells.length=esz/\z.cells.all aa.one=true
 pos:0<esz/\esz<=100
def PV{t e esz:Nat}(y:jb t e esz){L:Nat}{cs:List aa}{cap:Option Nat}{ro:Bool}(d:H.get L=I (.row ro esz [cs])):c_ P H [t,t] .ag (.ax L 0 1 esz cap)=I (.ax H.next 0 1 esz u,H.push (.row X esz [cs])):=by
 obtain⟨b,c,j⟩:=y.iP;obtain⟨z,h,i,_⟩:=y.z1;have a:b<=140737488355328:=ae;simp[c_,y.un,y.ts,c,h,i,y.pos.1,kb,iy,d,a]
def PW{t e esz:Nat}(y:jb t e esz){L l n:Nat}{cs:List aa}{els:List (List aa)}{cap:Option Nat}{ro:Bool}(i:H.get L=I (.row ro esz [cs]))(ak:H.get l=I (.row X esz els))(j:els.length=n)(o:n<=1000000000):c_ P H [t,t] (.ax l 0 n esz u) (.ax L 0 1 esz cap)=I (.ax H.next 0 (n+1) esz u,(H.set l .dead).push (.row X esz (els++[cs]))):=by
 obtain⟨b,h,d⟩:=y.iP;obtain⟨z,k,m,_⟩:=y.z1;have a:(n+1)*b<=140737488355328:=wx (Nat.mul_le_mul_left (n+1) d) ae;have c:n+1<=9223372036854775807:=ae;simp[c_,y.un,y.ts,h,k,m,y.pos.1,kb,iy,i,ak,j,a,c];rw[ef ae]
def lB{t e esz:Nat}(y:jb t e esz)(l:Nat){cs:List aa}(h:cs.length=esz)(d:cs.all aa.one=Y):b0 P l t 1 [(0,.agg cs)]=I (.ax l 0 1 esz (I 1),.row X esz [cs]):=by
 obtain⟨z,i,j,k⟩:=y.z1;have n:1*esz<=16777216:=by have:=y.pos.2;omega
 have a:esz<=16777216:=by have:=y.pos.2;omega
 have c:(aa.agg cs).cells=cs:=rfl;simp[b0,y.un,y.ts,i,j,jg,h,d,a,c];have m:∀x∈z.cells,x.one=true:=by simpa using k
 rw[decide_eq_true m];rfl
def c1.app{t e:Nat}(y:jb t e K.esz){l:List α}{v:aa}(h:c1 K ok H l v){okE:Nat->Prop}{a:α}{cs:List aa}(n:K.V H okE a cs)(m:∀k b,okE k->H.get k=I b->ok' k/\∀L,v= .ax L 0 l.length K.esz u->k≠L)(j:∀k b,ok k->H.get k=I b->ok' k)(q:ok' (H.next+1))(ak:l.length<=1000000000):
  ∃w H',c_ P (H.push (.row X K.esz [cs])) [t,t] v (.ax H.next 0 1 K.esz (I 1))=I (w,H')/\c1 K ok' H' (l++[a]) w/\H.next+1<=H'.next/\(∀k,k<H.next->(∀L,v= .ax L 0 l.length K.esz u->k≠L)->H'.get k=H.get k):=by
 have o:=ad.a_ H (.row X K.esz [cs]);rcases h with⟨rfl,rfl⟩|⟨L,els,rfl,aE,bB,cc,dk⟩
 ·refine⟨_,_,PV y o,.inr ⟨_,[cs],rfl,by simpa only[ad.bb]using q,ad.a_ _ _,rfl,λi b d=> ?_⟩,by simp only[ad.bb];omega,λk j _=> ?_⟩
  ·rcases i with _|i
   ·cases d;refine⟨cs,rfl,K.aP (λk b j g=> ?_) n⟩;have:=ad.aF g;exact⟨⟨(m k b j g).1,by simp only[ad.bb];omega⟩,((aw.push _ _).a1 _).get g⟩
   ·simp at d
  ·rw[ad.dv (by simp only[ad.bb];omega),ad.dv ae]
 ·have M:=ad.aF bB;have A:=(aw.push H (.row X K.esz [cs])).get bB;have s:∀k b,H.get k=I b->k≠L->(((H.push (.row X K.esz [cs])).set L .dead).push (.row X K.esz (els++[cs]))).get k=I b:=λk b g j=>by
   have:=ad.aF g;rw[ad.dv (by simp only[ad.cL,ad.bb];omega),ad.get_set_other ae,ad.dv ae];exact g
  refine⟨_,_,PW y o A cc ak,.inr ⟨_,els++[cs],by rw[rs];rfl,by simpa only[ad.cL,ad.bb]using q,ad.a_ _ _,by simp[cc],λi b d=> ?_⟩,by simp only[ad.cL,ad.bb];omega,λk j E=> ?_⟩
  ·by_cases C:i<l.length
   ·rw[FG C]at d;obtain⟨c,aX,G⟩:=dk i b d;refine⟨c,by rw[FG ae];exact aX,K.aP (λk x p g=> ?_) G⟩;have:=ad.aF g;exact⟨⟨j k x p.1 g,by simp only[ad.cL,ad.bb];omega⟩,s k x g p.2⟩
   ·rw[vw ae]at d;have B:i-l.length=0:=by
     rcases F:i-l.length with _|z
     ·rfl
     ·rw[F]at d;simp at d
    rw[B]at d;cases d;refine⟨cs,by rw[vw ae,show i-els.length=0 by omega];rfl,K.aP (λk x j g=> ?_) n⟩;have:=ad.aF g;exact⟨⟨(m k x j g).1,by simp only[ad.cL,ad.bb];omega⟩,s k x g ((m k x j g).2 L rfl)⟩
  ·rw[ad.dv (by simp only[ad.cL,ad.bb];omega),ad.get_set_other (by exactλe=>E L rfl e.symm),ad.dv ae]
end
def gx(c:Int):Bool:=(decide (97<=c)&&decide (c<=122))||(decide (65<=c)&&decide (c<=90))
def ib(c:Int):Bool:=decide (48<=c)&&decide (c<=57)
def cy(b:UInt8):Bool:=gx b.toNat
def cu(b:UInt8):Bool:=ib b.toNat
def h:List ay:=[[114,101,99,111,114,100],[103,108,111,98,97,108],[102,117,110,99],[118,97,114],[108,101,116],[105,102],[101,108,115,101],[119,104,105,108,101],[114,101,116,117,114,110],[112,114,105,110,116],[110,117,108,108],[110,101,119],[108,101,110],[114,101,97,100],[116,114,117,101],[102,97,108,115,101],[105,110,116],[98,111,111,108]]
def ez(x:ay):List ay->Bool
 |[]=>X
 |y::a=>y==x||ez x a
def fB(x:ay):Bool:=ez x h
def iO:ay->Bool
 |[]=>Y
 |c::r=>(cy c||cu c)&&iO r
def dJ(x:ay):Bool:=decide (1<=x.length)&&(decide (x.length<=8)&&(cy (x.headD 0)&&(!fB x&&iO x)))
def runN(d:Bool):ay->Nat
 |[]=>0
 |c::r=>bif cu c||(!d&&cy c)then runN d r+1 else 0
def fA:Int->ay->Option Int
 |n,[]=>I n
 |n,c::r=>if(9223372036854775807-((c.toNat:Int)-48))/10<n then u else fA (10*n+((c.toNat:Int)-48)) r
def gM:List ay:=[[60,61],[61,61],[33,61],[38,38],[124,124]]
def gz:ay:=[123,125,40,41,91,93,59,58,44,46,61,43,45,42,47,37,60,33]
def gQ(c:UInt8):ay->Bool
 |[]=>X
 |y::a=>c.toNat==y.toNat||gQ c a
def gl(s:ay):ay:=bif decide (2<=s.length)&&ez (s.take 2) gM then s.take 2 else match s with
 |c::_=>bif gQ c gz then[c]else[]
 |[]=>[]
def gi(c:UInt8):Bool:=c.toNat==32||(c.toNat==9||(c.toNat==10||c.toNat==13))
def o:Bool->ay->Nat
 |_,[]=>0
 |true,c::r=>bif c.toNat==10 then o X r+1 else o Y r+1
 |false,c::r=>bif gi c then o X r+1 else bif c==47&&r.head?==I 47 then o Y r+1 else 0
def e_(s:ay):Option (Int×ay×Int×Nat):=match s with
 |[]=>u
 |c::_=>
  bif cy c then(bif fB (s.take (runN X s))then I (3,s.take (runN X s),0,runN X s)else bif dJ (s.take (runN X s))then I (1,s.take (runN X s),0,runN X s)else u)
  else bif cu c then
   (match fA 0 (s.take (runN Y s))with
   |none=>u
   |some v=>bif (decide (1<runN Y s)&&c.toNat==48)||(decide (runN Y s<s.length)&&cy ((s[runN Y s]?).getD 0))then u else I (2,[],v,runN Y s))
  else bif gl s==[]then u else I (4,gl s,0,(gl s).length)
def e5:Nat->ay->Nat->Nat ⊕ List Tok
 |0,_,p=> .inl p
 |_+1,[],p=> .inr [⟨0,[],0,p⟩]
 |n+1,c::r,p=>match e_ (c::r)with
  |none=> .inl p
  |some (k,t,v,m)=>match e5 n (((c::r).drop m).drop (o X ((c::r).drop m))) (p+m+o X ((c::r).drop m))with
   | .inl e=> .inl e
   | .inr l=> .inr (⟨k,t,v,p⟩::l)
def oN(s:ay):Nat ⊕ List Tok:=e5 (s.length+1) (s.drop (o X s)) (o X s)
def c7(s:ay):List Tok×Int×Int:=if 6000<s.length then([],4,0)else match oN s with
 | .inl e=>([],1,e)
 | .inr l=>(l,0,0)
structure bq where
 name:ay
 b5:ay
 ci:Int
 pos:Int
structure dB where
 name:ay
 fields:List bq
 pos:Int
structure Fn where
 name:ay
 params:List bq
 has:Bool
 cm:ay
 rd:Int
 body:List a6
 pos:Int
structure bw where
 bJ:List dB
 globals:List bq
 funcs:List Fn
def bw.none:bw:=⟨[],[],[]⟩
def cO(T:List Tok)(s:am):bq×am:=(⟨(cT T s).1.1,(cT T s).1.2.1,(cT T s).1.2.2,(G T s.at_).pos⟩,(cT T s).2)
def gg(T:List Tok):Nat->List bq->am->V (List bq)
 |0,_,_=>u
 |n+1,l,s=>bif s.an==0&& !aS T s [125]then
  (bif (G T s.at_).kind==1&&l.length==8 then I (l,bx T 4 s)else gg T n (l++[(cO T s).1]) (bg T [59] (cO T s).2))
  else I (l,s)
def hI(T:List Tok)(n:Nat)(s:am):V dB:=(gg T n [] (bg T [123] (bv T s).2)).bind λp=>I (⟨(bv T s).1,p.1,(G T s.at_).pos⟩,bg T [125] p.2)
def hz(T:List Tok)(s:am):am:=bif aS T (bg T [44] s) [41]then bx T 2 (bg T [44] s)else bg T [44] s
def eV(T:List Tok):Nat->List bq->am->V (List bq)
 |0,_,_=>u
 |n+1,l,s=>bif s.an==0&& !aS T s [41]then
  (bif (G T s.at_).kind==1&&l.length==6 then I (l,bx T 4 s)else
   eV T n (l++[(cO T s).1]) (bif aS T (cO T s).2 [41]then(cO T s).2 else hz T (cO T s).2))
  else I (l,s)
def eW(T:List Tok)(s:am):(Bool×ay×Int)×am:=bif aS T s [58]then((Y,(cz T (ao s)).1),(cz T (ao s)).2)else((X,[],0),s)
def hB(T:List Tok)(n:Nat)(s:am):V Fn:=(eV T n [] (bg T [40] (bv T s).2)).bind λp=>(dU T n (eW T (bg T [41] p.2)).2).bind λb=>I (⟨(bv T s).1,p.1,(eW T (bg T [41] p.2)).1.1,(eW T (bg T [41] p.2)).1.2.1,(eW T (bg T [41] p.2)).1.2.2,b.1,(G T s.at_).pos⟩,b.2)
def isRec(T:List Tok)(s:am):Bool:=aS T s [114,101,99,111,114,100]
def hV(T:List Tok)(s:am):Bool:=aS T s [103,108,111,98,97,108]
def isFun(T:List Tok)(s:am):Bool:=aS T s [102,117,110,99]
def ek(T:List Tok)(N:Nat):Nat->bw->am->V bw
 |0,_,_=>u
 |n+1,g,s=>bif s.an==0&&(G T s.at_).kind != 0 then
  (bif (isRec T s&&g.bJ.length==12)||((hV T s&&g.globals.length==8)||(isFun T s&&g.funcs.length==16))then ek T N n g (bx T 4 s)
  else bif isRec T s then(hI T N (ao s)).bind λp=>ek T N n {g with bJ:=g.bJ++[p.1]} p.2
  else bif hV T s then ek T N n {g with globals:=g.globals++[(cO T (ao s)).1]} (bg T [59] (cO T (ao s)).2)
  else bif isFun T s then(hB T N (ao s)).bind λp=>ek T N n {g with funcs:=g.funcs++[p.1]} p.2
  else ek T N n g (bx T 2 s))
  else I (g,s)
def lg(g:bw)(s:am):bw×Int×Int:=if s.an=0 then(g,0,0)else(.none,s.an,s.bl)
def hS:Nat->Nat->ay->ay
 |0,_,a=>a
 |f+1,n,a=>if n/10=0 then UInt8.ofNat (48+n%10)::a else hS f (n/10) (UInt8.ofNat (48+n%10)::a)
def hL(t:Tok):ay:=bif t.kind==2 then hS 20 t.n.toNat []else t.text
def iw(t:Tok):Prop:=(t.kind=1/\t.n=0/\dJ t.text=Y)\/(t.kind=3/\t.n=0/\fB t.text=Y)\/(t.kind=2/\t.text=[]/\0<=t.n/\t.n<=9223372036854775807)\/(t.kind=4/\t.n=0/\(ez t.text gM=Y\/∃c,t.text=[c]/\gQ c gz=Y))
def kq(t:Tok)(b:UInt8):Bool:=bif t.kind==4 then(t.text.length==2|| !ez (t.text++[b]) gM)&& !(t.text==[47]&&b==47)else !cy b&& !cu b
def l0(t:Tok):ay->Bool
 |[]=>Y
 |b::_=>kq t b
def wm:(10:Nat)^20=100000000000000000000:=aC
def Ap(k:Nat)(h:k<10):(UInt8.ofNat (48+k)).toNat=48+k:=by
 simp only[UInt8.toNat_ofNat'];omega
def vm{c:UInt8}:cu c=Y↔48<=c.toNat/\c.toNat<=57:=by
 simp only[cu,ib,de,decide_eq_true_eq];omega
def JH{c:UInt8}:cy c=Y↔(97<=c.toNat/\c.toNat<=122)\/(65<=c.toNat/\c.toNat<=90):=by
 simp only[cy,gx,LM,de,decide_eq_true_eq];omega
def OC:∀(f n:Nat) (a:ay),n<10^f->0<f->n<=9223372036854775807->fA 0 (hS f n a)=fA (n:Int) a
 |0,_,_,_,d,_=>ae
 |f+1,n,a,e,_,i=>by
  rw[hS];have c:(UInt8.ofNat (48+n%10)).toNat=48+n%10:=Ap _ ae;split
  ·rename_i h;rw[fA,c];rw[if_neg ae]
   congr 1
   omega
  ·rename_i h;have d:0<f:=by
    cases f with
    |zero=>exfalso;simp at e;omega
    |succ f=>omega
   rw[OC f (n/10) _ (by rw[TU]at e;omega) d ae,fA,c];rw[if_neg ae]
   congr 1
   omega
def Am:∀(f n:Nat) (a:ay),(∀c∈a,cu c=Y)->∀c∈hS f n a,cu c=Y
 |0,_,_,h=>h
 |f+1,n,a,h=>by
  have e:cu (UInt8.ofNat (48+n%10))=true:=by rw[vm,Ap _ ae];omega
  have aU:∀c∈UInt8.ofNat (48+n%10)::a,cu c=true:=by
   intro c d;rcases fg.1 d with rfl|d
   ·exact e
   ·exact h c d
  rw[hS];split
  ·exact aU
  ·exact Am f _ _ aU
def An:∀(f n:Nat) (a:ay),n<10^f->0<f->∃c r,hS f n a=c::r/\(c.toNat=48->n=0/\r=a)
 |0,_,_,_,i=>ae
 |f+1,n,a,j,_=>by
  rw[hS];split
  ·rename_i d;refine⟨_,_,rfl,λh=> ?_⟩;rw[Ap _ ae]at h;exact⟨ae,rfl⟩
  ·rename_i d;have i:0<f:=by
    cases f with
    |zero=>exfalso;simp at j;omega
    |succ f=>omega
   obtain⟨c,r,e,h⟩:=An f (n/10) (UInt8.ofNat (48+n%10)::a) (by rw[TU]at j;omega) i;exact⟨c,r,e,λk=>absurd (h k).1 d⟩
def FZ:∀(f n:Nat) (a:ay),(hS f n a).length<=f+a.length
 |0,_,_=>by simp[hS]
 |f+1,n,a=>by
  rw[hS];split
  ·rw[pq];omega
  ·have:=FZ f (n/10) (UInt8.ofNat (48+n%10)::a);rw[pq]at this;omega
def Cl{d:Bool}{w:ay}(a:∀b r,w=b::r->cy b=X/\cu b=X):∀x:ay,(∀c∈x,(cu c||(!d&&cy c))=Y)->runN d (x++w)=x.length
 |[],_=>by
  rcases w with _|⟨b,r⟩
  ·rfl
  ·obtain⟨e,i⟩:=a b r rfl;simp[runN,e,i]
 |c::x,h=>by
  rw[cd,runN,h c (hi),aK,Cl a x (λc j=>h c (ij _ j)),pq]
def MA{d:Bool}:∀s:ay,∀c∈s.take (runN d s),(cu c||(!d&&cy c))=Y
 |[],_,h=>by simp[runN]at h
 |c::r,x,h=>by
  rw[runN]at h;cases a:(cu c||(!d&&cy c))with
  |false=>rw[a]at h;simp at h
  |true=>
   rw[a]at h;simp only[aK,List.take_succ_cons,fg]at h;rcases h with rfl|h
   ·exact a
   ·exact MA r x h
def OB:∀(l:ay) (a v:Int),(∀c∈l,cu c=Y)->0<=a->a<=9223372036854775807->fA a l=I v->0<=v/\v<=9223372036854775807
 |[],a,v,_,i,j,h=>by simp only[fA,aT]at h;omega
 |c::r,a,v,e,i,j,h=>by
  rw[fA]at h;have d:=vm.1 (e c (hi));split at h
  ·cases h
  ·exact OB r _ v (λc d=>e c (ij _ d)) ae ae h
def Kt:∀(l:ay) (c:UInt8),gQ c l=Y->c∈l
 |[],_,h=>by simp[gQ]at h
 |y::a,c,h=>by
  rw[gQ]at h;rcases jk.1 h with h|h
  ·have:=UInt8.toNat_inj.1 (by simpa using h);exact this▸hi
  ·exact ij _ (Kt a c h)
def Bv:∀(l:List ay) (c:ay),ez c l=Y->c∈l
 |[],_,h=>by simp[ez]at h
 |y::a,c,h=>by
  rw[ez]at h;rcases jk.1 h with h|h
  ·have:y=c:=by simpa using h
   exact this▸hi
  ·exact ij _ (Bv a c h)
def Ei:∀x:ay,iO x=Y↔∀c∈x,(cu c||(!X&&cy c))=Y
 |[]=>by simp[iO]
 |c::r=>by
  have:=Ei r;simp only[iO,de,fg,forall_eq_or_imp,this,mn,zA];rw[Bool.or_comm]
def T5{s:ay}{t:Tok}{m:Nat}(h:e_ s=I (t.kind,t.text,t.n,m)):iw t:=by
 obtain⟨k,x,z,p⟩:=t;rcases s with _|⟨c,r⟩
 ·simp[e_]at h
 rw[e_]at h;cases ak:cy c with
 |true=>
  rw[ak,aK]at h;generalize (c::r).take (runN X (c::r))=y at*;cases a:fB y with
  |true=>
   rw[a,aK]at h;simp only[aT,bS]at h;obtain⟨rfl,rfl,rfl,-⟩:=h;exact .inr (.inl ⟨rfl,rfl,a⟩)
  |false=>
   rw[a,aH]at h;cases i:dJ y with
   |false=>rw[i]at h;cases h
   |true=>
    rw[i,aK]at h;simp only[aT,bS]at h;obtain⟨rfl,rfl,rfl,-⟩:=h;exact .inl ⟨rfl,rfl,i⟩
 |false=>
  rw[ak,aH]at h;cases o:cu c with
  |true=>
   rw[o,aK]at h;have w:=MA (d:=true) (c::r);cases a:fA 0 ((c::r).take (runN Y (c::r)))with
   |none=>rw[a]at h;cases h
   |some v=>
    rw[a]at h;simp only at h;have B:=OB _ 0 v (λc A=>by simpa using w c A) ae ae a;cases q:((decide (1<runN Y (c::r))&&c.toNat==48)||(decide (runN Y (c::r)<(c::r).length)&&cy (((c::r)[runN Y (c::r)]?).getD 0)))with
    |true=>rw[q]at h;cases h
    |false=>
     rw[q]at h;simp only[aH,aT,bS]at h;obtain⟨rfl,rfl,rfl,-⟩:=h;exact .inr (.inr (.inl ⟨rfl,rfl,B⟩))
  |false=>
   rw[o,aH]at h;cases au:gl (c::r)==[]with
   |true=>rw[au]at h;cases h
   |false=>
    rw[au,aH]at h;simp only[aT,bS]at h;obtain⟨rfl,rfl,rfl,-⟩:=h;refine .inr (.inr (.inr ⟨rfl,rfl,?_⟩));have e:(gl (c::r)==[])=false:=au;show ez (gl (c::r)) gM=Y\/∃d,gl (c::r)=[d]/\gQ d gz=Y;unfold gl at e ⊢;cases j:(decide (2<=(c::r).length)&&ez ((c::r).take 2) gM)with
    |true=>rw[aK];exact .inl (Bool.and_eq_true_iff.1 j).2
    |false=>
     rw[j]at e;simp only[aH]at e ⊢;cases l:gQ c gz with
     |false=>rw[l]at e;cases e
     |true=>exact .inr ⟨c,rfl,l⟩
def Ql{c:UInt8}(h:gi c=X)(aU:c.toNat≠47)(w:ay):o X (c::w)=0:=by
 have:(c==47)=false:=by
  rw[beq_eq_false_iff_ne];intro e;subst e;exact aU rfl
 rw[o,h,this];rfl
def FF{c:UInt8}(h:cy c=Y\/cu c=Y)(w:ay):o X (c::w)=0:=by
 have:(97<=c.toNat/\c.toNat<=122)\/(65<=c.toNat/\c.toNat<=90)\/(48<=c.toNat/\c.toNat<=57):=by
  rcases h with h|h
  ·have:=JH.1 h;omega
  ·have:=vm.1 h;omega
 exact Ql (by simp only[gi,Bool.or_eq_false_iff,beq_eq_false_iff_ne];omega) ae w
def T7:gz.all (λc=> !cy c&& !cu c&& !gi c)=true:=by decide+kernel
def abZ:h.all (λx=>cy (x.headD 0)&&iO x&&decide (1<=x.length))=true:=by decide+kernel
def K8{x w:ay}{b:Bool}(j:b=fB x)(h:1<=x.length)(k:cy (x.headD 0)=Y)(i:iO x=Y)(l:b=Y\/dJ x=Y)(m:∀b r,w=b::r->cy b=X/\cu b=X):e_ (x++w)=I (bif b then 3 else 1,x,0,x.length)/\o X (x++w)=0/\x≠[]:=by
 rcases x with _|⟨c,x⟩
 ·simp at h
 have ak:cy c=true:=k;have a:=Cl (d:=false) m (c::x) ((Ei _).1 i);refine⟨?_,?_,by simp⟩
 ·rw[cd,e_];rw[cd]at a;simp only[ak,aK];have e:(c::(x++w)).take (runN X (c::(x++w)))=c::x:=by
   rw[a,<-cd,MN];rfl
  rw[e,a,<-j];cases b with
  |true=>rfl
  |false=>rw[l.resolve_left (by simp)];rfl
 ·rw[cd];exact FF (.inl ak) _
def L9{t:Tok}(h:iw t)(w:ay)(l:l0 t w=Y):e_ (hL t++w)=I (t.kind,t.text,t.n,(hL t).length)/\o X (hL t++w)=0/\hL t≠[]:=by
 obtain⟨k,x,z,p⟩:=t;have j:k≠4->∀b r,w=b::r->cy b=X/\cu b=false:=by
  rintro C b r rfl;have:(k==4)=false:=by simpa using C
  simpa [l0,kq,this]using l
 rcases h with⟨rfl,rfl,h⟩|⟨rfl,rfl,h⟩|⟨rfl,rfl,v,A⟩|⟨rfl,rfl,h⟩
 ·simp only at h;have e:hL ⟨1,x,0,p⟩=x:=rfl;rw[e];have aU:=h;simp only[dJ,de,decide_eq_true_eq,AB]at aU;exact K8 (b:=false) aU.2.2.2.1.symm aU.1 aU.2.2.1 aU.2.2.2.2 (.inr h) (j aC)
 ·simp only at h;have e:hL ⟨3,x,0,p⟩=x:=rfl;rw[e];have a:=DE.1 abZ x (Bv _ _ h);simp only[de,decide_eq_true_eq]at a;exact K8 (b:=true) h.symm a.2 a.1.1 a.1.2 (.inl rfl) (j aC)
 ·obtain⟨n,rfl⟩:∃n:Nat,z=n:=⟨z.toNat,by simp only at v;omega⟩;have F:n<=9223372036854775807:=by simp only at A;omega
  have e:hL ⟨2,[],(n:Int),p⟩=hS 20 n []:=rfl;rw[e];have s:=Am 20 n [] (by simp);have G:=OC 20 n [] (by rw[wm];omega) ae F;obtain⟨c',ds,i,B⟩:=An 20 n [] (by rw[wm];omega) ae;generalize hS 20 n []=y at*;subst i;have m:=s c' hi;have H:=vm.1 m;have E:cy c'=false:=by
   rw[<-Bool.not_eq_true,JH];omega
  have j:=j aC;have q:=Cl (d:=true) j (c'::ds) (λc i=>by simp[s c i]);refine⟨?_,by rw[cd];exact FF (.inr m) _,by simp⟩;rw[cd,e_];rw[cd]at q;simp only[E,m,aK,aH];have aE:(c'::(ds++w)).take (runN Y (c'::(ds++w)))=c'::ds:=by
   rw[q,<-cd,MN];rfl
  rw[aE,G,q];simp only[fA];have cc:(decide (1<(c'::ds).length)&&c'.toNat==48)=false:=by
   rw[BC];by_cases i:c'.toNat=48
   ·left;rw[(B i).2];rfl
   ·right;simpa using i
  have dk:(decide ((c'::ds).length<(c'::(ds++w)).length)&&cy (((c'::(ds++w))[(c'::ds).length]?).getD 0))=false:=by
   have bB:(c'::(ds++w))[(c'::ds).length]? =w[0]? :=by
    rw[<-cd,vw (aV _),Nat.sub_self]
   rw[bB];rcases w with _|⟨b,r⟩
   ·simp
   ·simp[(j b r rfl).1]
  rw[cc,dk,Bool.or_false,aH]
 ·simp only at h;have e:hL ⟨4,x,0,p⟩=x:=rfl;rw[e];rcases h with h|⟨c,rfl,h⟩
  ·have a:=Bv _ _ h;simp only[gM,fg,xy,or_false]at a;rcases a with rfl|rfl|rfl|rfl|rfl<;>exact⟨rfl,rfl,by simp⟩
  ·have a:=DE.1 T7 c (Kt _ _ h);simp only[de,AB]at a;have au:gl (c::w)=[c]:=by
    unfold gl;have:(decide (2<=(c::w).length)&&ez ((c::w).take 2) gM)=false:=by
     rcases w with _|⟨b,r⟩
     ·rfl
     ·simp only[l0,kq,beq_self_eq_true,aK,de,LM,List.length_singleton]at l;have:=l.1.resolve_left aC;simp only[CD,AB]at this;have e:(c::b::r).take 2=[c,b]:=rfl;rw[e,this,lm]
    rw[this];simp[h]
   refine⟨?_,?_,by simp⟩
   ·rw[CD,e_];simp only[a.1.1,a.1.2,aH,au];rfl
   ·rw[CD,o,a.2,aH];have:(c==47&&w.head?==I 47)=false:=by
     rcases w with _|⟨b,r⟩
     ·simp
     ·simp only[l0,kq,beq_self_eq_true,aK,de]at l;have:=l.2;simp only[AB,BC]at this ⊢;rcases this with h|h
      ·left;simpa using h
      ·right;simpa using h
    rw[this,aH]
inductive bQ where
 |t (ba:Tok)
 |b (s:ay)
def bQ.sB:bQ->ay
 | .t ba=>hL ba
 | .b s=>s
def flat:List bQ->ay
 |[]=>[]
 |p::r=>p.sB++flat r
def aL:List bQ->List Tok
 |[]=>[]
 | .t t::r=>t::aL r
 | .b _::r=>aL r
def iu:List bQ->Prop
 |[]=>True
 | .t t::r=>iw t/\l0 t (flat r)=Y/\iu r
 | .b s::r=>s.all gi=Y/\iu r
def o2:List bQ->Nat->List Tok
 |[],p=>[⟨0,[],0,p⟩]
 | .t t::r,p=>⟨t.kind,t.text,t.n,p⟩::o2 r (p+(hL t).length)
 | .b s::r,p=>o2 r (p+s.length)
def ec:∀a b:List bQ,flat (a++b)=flat a++flat b
 |[],_=>rfl
 |p::r,b=>by rw[cd,flat,ec r b,flat,List.append_assoc]
def dE:∀a b:List bQ,aL (a++b)=aL a++aL b
 |[],_=>rfl
 | .t t::r,b=>by rw[cd,aL,dE r b,aL,cd]
 | .b s::r,b=>by rw[cd,aL,dE r b,aL]
def FH:∀(s w:ay),s.all gi=Y->o X (s++w)=s.length+o X w
 |[],w,_=>by simp
 |c::s,w,h=>by
  simp only[IJ,de]at h;rw[cd,o,h.1,aK,FH s w h.2,pq];omega
def Bn:∀(a:List bQ) (n p:Nat),iu a->(aL a).length<n->e5 n ((flat a).drop (o X (flat a))) (p+o X (flat a))= .inr (o2 a p)
 |_,0,_,_,h=>ae
 |[],n+1,p,_,_=>rfl
 | .b s::r,n+1,p,h,d=>by
  rw[iu]at h;have q:=FH s (flat r) h.1;have i:=Bn r (n+1) (p+s.length) h.2 d;rw[flat,bQ.sB,q,<-List.drop_drop,NO,<-Nat.add_assoc]
  ·exact i
  ·rfl
 | .t t::r,n+1,p,h,d=>by
  rw[iu]at h;obtain⟨j,k,m⟩:=L9 h.1 (flat r) h.2.1;have i:=Bn r n (p+(hL t).length) h.2.2 (by simpa [aL]using d);have l:o X (flat (.t t::r))=0:=k;rw[l,PQ,Nat.add_zero];show e5 (n+1) (hL t++flat r) p=_;rcases e:hL t++flat r with _|⟨c,x⟩
  ·exact absurd (List.append_eq_nil_iff.1 e).1 m
  have v:(c::x).drop (hL t).length=flat r:=by rw[<-e,NO];rfl
  rw[e]at j;rw[e5,j];simp only[v];rw[i];rfl
def za:∀a:List bQ,iu a->(aL a).length<=(flat a).length
 |[],_=>aV _
 | .b s::r,h=>by
  rw[iu]at h;have:=za r h.2;simp only[aL,flat,bQ.sB,rs];omega
 | .t t::r,h=>by
  rw[iu]at h;have d:=za r h.2.2;obtain⟨-,-,c⟩:=L9 h.1 (flat r) h.2.1;have:(hL t).length≠0:=λe=>c (List.length_eq_zero_iff.1 e)
  simp only[aL,flat,bQ.sB,rs,pq];omega
def NQ{a:List bQ}(h:iu a)(ak:(flat a).length<=6000):c7 (flat a)=(o2 a 0,0,0):=by
 unfold c7;rw[if_neg ae,oN];have:=Bn a ((flat a).length+1) 0 h (by have:=za a h;omega);rw[RS]at this;rw[this]
def JO:∀(n:Nat) (s:ay) (p:Nat) (l:List Tok),e5 n s p= .inr l->∀t∈l,iw t\/t.kind=0
 |0,_,_,_,h=>by cases h
 |n+1,[],p,l,h=>by cases h;intro t aq;simp only[fg,xy,or_false]at aq;subst aq;exact .inr rfl
 |n+1,c::r,p,l,h=>by
  rw[e5]at h;split at h
  ·cases h
  ·rename_i k t v m a;split at h
   ·cases h
   ·rename_i l' ak;cases h;intro d hu;rcases fg.1 hu with rfl|hu
    ·exact .inl (T5 (t:=⟨k,t,v,p⟩) a)
    ·exact JO n _ _ _ ak d hu
def NP{s:ay}:∀t∈(c7 s).1,iw t\/t.kind=0:=by
 unfold c7;split
 ·intro t aq;cases aq
 ·cases h:oN s with
  |inl e=>intro t aq;cases aq
  |inr l=>exact JO _ _ _ _ h
def cW(k:Int):Nat:=if k=24 then 1 else if k=23 then 2 else if 19<=k/\k<=22 then 3 else if k=14\/k=15 then 4 else if 16<=k/\k<=18 then 5 else if k=12\/k=13 then 6 else 7
def az.aM(e:az):Nat:=cW e.kind
def hb(x:ay)(d:Int):Prop:=0<=d/\d<=3/\(dJ x=Y\/x=[105,110,116]\/x=[98,111,111,108])
inductive cx:Nat->Nat->az->Prop
 |par {d m e}:cx d 0 e->e.aM<m->m<=7->cx (d+1) m e
 |int {d m n p}:m<=7->0<=n->n<=9223372036854775807->cx d m (.mk {kind:=1,n:=n,pos:=p} [])
 |bool {d m n p}:m<=7->n=0\/n=1->cx d m (.mk {kind:=2,n:=n,pos:=p} [])
 |null {d m x z p}:m<=7->hb x z->cx d m (.mk {kind:=3,b5:=x,ci:=z,pos:=p} [])
 |var {d m x p}:m<=7->dJ x=true->cx d m (.mk {kind:=4,name:=x,pos:=p} [])
 |field {d m x p e}:m<=7->dJ x=true->cx d 7 e->cx d m (.mk {kind:=5,name:=x,pos:=p} [e])
 |item {d m p e i}:m<=7->cx (d+1) 7 e->cx d 0 i->cx (d+1) m (.mk {kind:=6,pos:=p} [e,i])
 |call {d m x p l}:m<=7->dJ x=true->(∀e∈l,cx d 0 e)->cx (d+1) m (.mk {kind:=7,name:=x,pos:=p} l)
 |new {d m x p}:m<=7->dJ x=true->cx d m (.mk {kind:=8,b5:=x,pos:=p} [])
 |make {d m x z p e}:m<=7->hb x z->cx d 0 e->cx (d+1) m (.mk {kind:=9,b5:=x,ci:=z,pos:=p} [e])
 |len {d m p e}:m<=7->cx d 0 e->cx (d+1) m (.mk {kind:=10,pos:=p} [e])
 |read {d m p}:m<=7->cx (d+1) m (.mk {kind:=11,pos:=p} [])
 |sign {d m k p e}:m<=6->k=12\/k=13->cx d 6 e->cx (d+1) m (.mk {kind:=k,pos:=p} [e])
 |bin {d m k p a b}:m<=cW k->14<=k->k<=24->cx d (cW k) a->cx d (cW k+1) b->cx d m (.mk {kind:=k,pos:=p} [a,b])
def Tj{k:Int}(h:14<=k)(aU:k<=24):1<=cW k/\cW k<=5:=by
 unfold cW;(repeat' split)<;>omega
def Kn(k:Int):1<=cW k/\cW k<=7:=by
 unfold cW;(repeat' split)<;>omega
def cx.more{d m:Nat}{e:az}(h:cx d m e):∀{a:Nat},d<=a->cx a m e:=by
 induction h with
 |par _ n o l=>intro a j;obtain⟨k,rfl⟩:∃k,a=k+1:=⟨a-1,ae⟩;exact .par (l ae) n o
 |int c i n=>intro a _;exact .int c i n
 |bool c i=>intro a _;exact .bool c i
 |null c i=>intro a _;exact .null c i
 |var c i=>intro a _;exact .var c i
 |field c i _ l=>intro a j;exact .field c i (l j)
 |item c _ _ ih1 ih2=>intro a j;obtain⟨k,rfl⟩:∃k,a=k+1:=⟨a-1,ae⟩;exact .item c (ih1 j) (ih2 ae)
 |call c i _ l=>intro a j;obtain⟨k,rfl⟩:∃k,a=k+1:=⟨a-1,ae⟩;exact .call c i λe p=>l e p ae
 |new c i=>intro a _;exact .new c i
 |make c i _ l=>intro a j;obtain⟨k,rfl⟩:∃k,a=k+1:=⟨a-1,ae⟩;exact .make c i (l ae)
 |len c _ l=>intro a j;obtain⟨k,rfl⟩:∃k,a=k+1:=⟨a-1,ae⟩;exact .len c (l ae)
 |read c=>intro a j;obtain⟨k,rfl⟩:∃k,a=k+1:=⟨a-1,ae⟩;exact .read c
 |sign c i _ l=>intro a j;obtain⟨k,rfl⟩:∃k,a=k+1:=⟨a-1,ae⟩;exact .sign c i (l ae)
 |bin c i n _ _ ih1 ih2=>intro a j;exact .bin c i n (ih1 j) (ih2 j)
def cx.at{d m:Nat}{e:az}(h:cx d 0 e)(k:m<=e.aM):cx d m e:=by
 have o:=(Kn e.kind).2;have j:m<=7:=wx k o;cases h with
 |par _ h _=>omega
 |int i a c=>exact .int j a c
 |bool i a=>exact .bool j a
 |null i a=>exact .null j a
 |var i a=>exact .var j a
 |field i a c=>exact .field j a c
 |item i a c=>exact .item j a c
 |call i a c=>exact .call j a c
 |new i a=>exact .new j a
 |make i a c=>exact .make j a c
 |len i a=>exact .len j a
 |read i=>exact .read j
 |sign i a c=>exact .sign (by rcases a with rfl|rfl<;>exact k) a c
 |bin i a c l n=>exact .bin k a c l n
def cx.low{d m:Nat}{e:az}(h:cx d m e){m':Nat}(n:m'<=m):cx d m' e:=by
 cases h with
 |par a c j=>
  by_cases l:e.aM<m'
  ·exact .par a l ae
  ·exact(a.at ae).more (UV _)
 |int i a c=>exact .int ae a c
 |bool i a=>exact .bool ae a
 |null i a=>exact .null ae a
 |var i a=>exact .var ae a
 |field i a c=>exact .field ae a c
 |item i a c=>exact .item ae a c
 |call i a c=>exact .call ae a c
 |new i a=>exact .new ae a
 |make i a c=>exact .make ae a c
 |len i a=>exact .len ae a
 |read i=>exact .read ae
 |sign i a c=>exact .sign ae a c
 |bin i a c j k=>exact .bin ae a c j k
def cx.up{d:Nat}{e:az}(h:cx d 0 e){m:Nat}(c:m<=7):cx (d+1) m e:=by
 by_cases a:e.aM<m
 ·exact .par h a c
 ·exact(h.at ae).more (UV _)
mutual
def du:az->Nat
 | .mk a c=>40+a.name.length+a.b5.length+ch c
def ch:List az->Nat
 |[]=>0
 |e::r=>du e+ch r
end
def Ox:∀(l:List az) (e:az),ch (l++[e])=ch l+du e
 |[],e=>by simp[ch]
 |x::l,e=>by rw[cd,ch,Ox l e,ch];omega
structure In(E:Int)(s:am):Prop where
 a:0<=s.at_
 b:s.at_<=E
 c:0<=s.aY
 d:s.aY<=50
structure m(E:Int)(s s':am)(k:Int):Prop where
 f:s.an=0
 jo:s'.an=0
 o:s'.aY=s.aY
 a:s.at_+k<=s'.at_
 b:s'.at_<=E
structure Good(T:List Tok)(E:Int):Prop where
 n:E<=20000000
 lt:∀a,(G T a).kind≠0->a<E
 t:∀t∈T,iw t\/t.kind=0
section
variable {T:List Tok}{E:Int}{s s' s2:am}
def m.trans{k l:Int}(h:m E s s' k)(aU:m E s' s2 l):m E s s2 (k+l):=⟨h.f,aU.jo,aU.o.trans h.o,by have:=h.a;have:=aU.a;omega,aU.b⟩
def m.less{k l:Int}(h:m E s s' k)(ak:l<=k):m E s s' l:=⟨h.f,h.jo,h.o,by have:=h.a;omega,h.b⟩
def m.in{k:Int}(e:In E s)(h:m E s s' k)(i:0<=k):In E s':=⟨by have:=h.a;have:=e.a;omega,h.b,by rw[h.o];exact e.c,by rw[h.o];exact e.d⟩
def m.refl(a:In E s)(h:s.an=0):m E s s 0:=⟨h,h,rfl,ae,a.b⟩
def Dv{a:Int}(h:(G T a).kind≠0):0<=a/\a<T.length/\G T a∈T:=by
 unfold G at h ⊢;split at h
 ·exact absurd rfl h
 ·rename_i c;have:a.toNat<T.length:=ae;rw[if_neg c,List.getElem?_eq_getElem this,Option.getD_some];exact⟨ae,ae,List.getElem_mem _⟩
def NN(ar:Good T E){a:Int}(h:(G T a).kind≠0):iw (G T a):=(ar.t _ (Dv h).2.2).resolve_right h
def abr(ar:Good T E){a:Int}(h:(G T a).kind=1):dJ (G T a).text=true:=by
 rcases NN ar (a:=a) ae with aU|aU|aU|aU
 ·exact aU.2.2
 all_goals omega
def abq(ar:Good T E){a:Int}(h:(G T a).kind=2):0<=(G T a).n/\(G T a).n<=9223372036854775807:=by
 rcases NN ar (a:=a) ae with aU|aU|aU|aU
 ·omega
 ·omega
 ·exact aU.2.2
 ·omega
def go_ok(ar:Good T E)(d:In E s)(c:s.an=0)(h:(G T s.at_).kind≠0):ao s={s with at_:=s.at_+1}/\m E s (ao s) 1:=by
 have j:=ar.lt _ h;have k:=ar.n;have i:=d.a;have e:ao s={s with at_:=s.at_+1}:=by
  unfold ao dY;rw[IntWalk.i64_in _ ⟨ae,ae⟩]
 refine⟨e,?_⟩;rw[e];exact⟨c,c,rfl,by simp,by simp only;omega⟩
def ej{e:Int}(a:e≠0):(bx T e s).an≠0:=by
 unfold bx;split
 ·exact a
 ·assumption
def eU{x:ay}(h:aS T s x=Y):s.an=0/\(G T s.at_).kind=kw x/\(G T s.at_).text=x:=km h
def Bd(x:ay):kw x≠0:=by
 unfold kw;split
 ·split<;>decide
 ·decide
def gw(ar:Good T E)(d:In E s){x:ay}(h:aS T s x=Y):m E s (ao s) 1:=by
 obtain⟨a,c,-⟩:=eU h;exact(go_ok ar d a (by rw[c];exact Bd x)).2
abbrev cP(E:Int)(s:am):Prop:=s.an=0->In E s
def m.gK{k:Int}(a:cP E s)(h:m E s s' k)(c:0<=k):cP E s':=λ_=>h.in (a h.f) c
def fo(ar:Good T E)(c:cP E s){x:ay}(h:(bg T x s).an=0):aS T s x=Y/\bg T x s=ao s/\m E s (bg T x s) 1:=by
 unfold bg at h ⊢;cases a:aS T s x with
 |true=>rw[aK];exact⟨rfl,rfl,gw ar (c (eU a).1) a⟩
 |false=>rw[a,aH]at h;exact absurd h (ej aC)
def la(ar:Good T E)(c:cP E s)(h:(bv T s).2.an=0):dJ (bv T s).1=Y/\m E s (bv T s).2 1:=by
 unfold bv at h ⊢;cases a:(s.an==0&&(G T s.at_).kind==1)with
 |true=>
  simp only[de,beq_iff_eq]at a;rw[aK];exact⟨abr ar a.2,(go_ok ar (c a.1) a.1 ae).2⟩
 |false=>rw[a,aH]at h;exact absurd h (ej aC)
def gR{x:ay}(h:dJ x=Y):x.length<=8:=by
 simp only[dJ,de,decide_eq_true_eq]at h;exact h.2.1
def iU{x:ay}{d:Int}(h:hb x d):x.length<=8:=by
 rcases h.2.2 with h|rfl|rfl
 ·exact gR h
 ·decide
 ·decide
def jx(ar:Good T E)(d:cP E s){x:ay}(h:(cl T x s).an=0):aS T s x=Y/\s.an=0/\(cl T x s).aY=s.aY+1/\(cl T x s).at_=s.at_+1/\In E (cl T x s)/\s.aY+1<=50:=by
 unfold cl at h ⊢;cases i:aS T s x&&decide (50<=s.aY)with
 |true=>rw[i,aK]at h;exact absurd h (ej aC)
 |false=>
  rw[i,aH]at h;rw[aH];have aU:(bg T x s).an=0:=h;obtain⟨j,p,l⟩:=fo ar d aU;obtain⟨k,q,-⟩:=eU j;have d:=d k;obtain⟨o,-⟩:=go_ok ar d k (by rw[q];exact Bd x);rw[j,zA]at i;have y:s.aY<50:=by have:=of_decide_eq_false i;omega
  have v:=d.c;have e:dY (s.aY+1)=s.aY+1:=IntWalk.i64_in _ ⟨ae,ae⟩;have m:=l.a;have n:=l.b;have w:=d.a;rw[p,o]at m n ⊢;simp only[e4,e]at m n ⊢;exact⟨j,k,trivial,trivial,⟨by simp only;omega,by simp only;omega,by simp only;omega,by simp only;omega⟩,ae⟩
def BO(a:In E s):dA s={s with aY:=s.aY-1}:=by
 have:=a.c;have:=a.d;unfold dA dY;rw[IntWalk.i64_in _ ⟨ae,ae⟩]
def sX(ar:Good T E){k:Int}(n:0<=k)(w:s.aY+1=s'.aY)(v:s.at_+1=s'.at_)(i:s.an=0)(j:In E s')(d:m E s' s2 k){x:ay}(h:(cV T x s2).an=0):m E s (cV T x s2) (k+2):=by
 have aU:(bg T x s2).an=0:=h;have e:=d.in j n;obtain⟨p,q,c⟩:=fo ar (λ_=>e) aU;have l:=c.in e ae;unfold cV at h ⊢;rw[BO l]at h ⊢;have aI:=d.a;have a2:=c.a;have br:=d.o;have bI:=c.o;exact⟨i,h,by simp only;omega,by simp only;omega,c.b⟩
def Dp(ar:Good T E){x:ay}:∀(n:Nat) (s:am),cP E s->(takeN T x n s).an=0->m E s (takeN T x n s) n
 |0,s,c,h=> .refl (c h) h
 |n+1,s,c,h=>by
  have a:(bg T x s).an=0:=by
   by_cases a:(bg T x s).an=0
   ·exact a
   ·exfalso;have key:∀(n:Nat) (s:am),s.an≠0->(takeN T x n s).an≠0:=by
     intro n
     induction n with
     |zero=>intro s au;exact au
     |succ n e=>intro s au;exact e _ (by unfold bg;rw[ed au,aH,e9 au];exact au)
    exact key n _ a h
  obtain⟨-,-,d⟩:=fo ar c a;have:=d.trans (Dp ar n _ (d.gK c ae) h);exact this.less ae
def KX(ar:Good T E):∀(n:Nat) (d:Int) (s:am) {q:Int×am},In E s->0<=d->eZ T n d s= .inl q->s.an=0->d<=q.1/\q.1<=d+n/\m E s q.2 (q.1-d)/\aS T q.2 [91]=X
 |0,d,s,q,c,l,h,e=>by
  rw[eZ]at h;cases a:aS T s [91]with
  |true=>rw[a,aK]at h;cases h
  |false=>
   rw[a,aH]at h;cases h;exact⟨Int.le_refl _,by simp,(m.refl c e).less (by simp),a⟩
 |n+1,d,s,q,c,l,h,e=>by
  rw[eZ]at h;cases a:aS T s [91]with
  |true=>
   rw[a,aK]at h;have i:=gw ar c a;obtain⟨o,p,j,k⟩:=KX ar n (d+1) _ (i.in c ae) ae h i.jo;exact⟨ae,ae,(i.trans j).less ae,k⟩
  |false=>
   rw[a,aH]at h;cases h;exact⟨Int.le_refl _,ae,(m.refl c e).less (by simp),a⟩
def TV:∀(n:Nat) (d:Int) (s:am),s.an≠0->eZ T n d s= .inl (d,s)
 |0,d,s,h=>by rw[eZ,ed h];rfl
 |n+1,d,s,h=>by rw[eZ,ed h];rfl
def Dl{x:ay}:∀(n:Nat) (s:am),s.an≠0->(takeN T x n s).an≠0
 |0,s,au=>au
 |n+1,s,au=>Dl n _ (by unfold bg;rw[ed au,aH,e9 au];exact au)
def nc(ar:Good T E)(k:cP E s)(h:(cz T s).2.an=0):hb (cz T s).1.1 (cz T s).1.2/\m E s (cz T s).2 1:=by
 have c:s.an=0:=by
  by_cases c:s.an=0
  ·exact c
  ·exfalso;unfold cz at h;rw[TV 3 0 s c]at h;simp only[fj,ed c,JK,aH,vU c]at h;exact Dl _ _ c h
 have k:=k c;unfold cz at h ⊢;cases l:eZ T 3 0 s with
 |inr s'=>
  exfalso;rw[l]at h;have key:∀(n:Nat) (d:Int) (s:am) {s':am},eZ T n d s= .inr s'->s'.an≠0:=by
   intro n
   induction n with
   |zero=>
    intro d s s' h;rw[eZ]at h;cases a:aS T s [91]<;>rw[a]at h<;>cases h;exact ej aC
   |succ n x=>
    intro d s s' h;rw[eZ]at h;cases a:aS T s [91]<;>rw[a]at h
    ·cases h
    ·exact x _ _ h
  exact key _ _ _ l h
 |inl q=>
  obtain⟨o,p,i,-⟩:=KX ar 3 0 s k ae l c;rw[l]at h;obtain⟨d,s1⟩:=q;simp only at h o p i ⊢;have e:=i.in k ae;unfold fj at h ⊢;cases a:aS T s1 [105,110,116]||aS T s1 [98,111,111,108]with
  |true=>
   rw[a,aK]at h;rw[aK];have v:m E s1 (ao s1) 1/\((G T s1.at_).text=[105,110,116]\/(G T s1.at_).text=[98,111,111,108]):=by
    rcases jk.1 a with a|a
    ·exact⟨gw ar e a,.inl (eU a).2.2⟩
    ·exact⟨gw ar e a,.inr (eU a).2.2⟩
   have w:=Dp ar _ _ (v.1.gK (λ_=>e) ae) h;exact⟨⟨o,by simpa using p,.inr v.2⟩,((i.trans v.1).trans w).less ae⟩
  |false=>
   rw[a,aH]at h;rw[aH];have j:(bv T s1).2.an=0:=by
    by_cases j:(bv T s1).2.an=0
    ·exact j
    ·exact absurd h (Dl _ _ j)
   obtain⟨y,n2⟩:=la ar (λ_=>e) j;have w:=Dp ar _ _ (n2.gK (λ_=>e) ae) h;exact⟨⟨o,by simpa using p,.inl y⟩,((i.trans n2).trans w).less ae⟩
end
def ha(o a0:Int)(m:Nat)(e:az)(aI:Int):Prop:=(du e:Int)<=60*(aI-a0)/\∃d:Nat,o+d<=50/\cx d m e
def ha.low{o a0 aI:Int}{m m':Nat}{e:az}(h:ha o a0 m e aI)(a:m'<=m):ha o a0 m' e aI:=⟨h.1,h.2.imp λ_ h=>⟨h.1,h.2.low a⟩⟩
def ha.wide{o a0 aI a bf:Int}{m:Nat}{e:az}(h:ha o a0 m e aI)(c:a<=a0)(d:aI<=bf):ha o a m e bf:=⟨by have:=h.1;omega,h.2⟩
def zk{a:bY}(d:a.name.length<=8)(c:a.b5=[]):(du (.mk a []):Int)<=60:=by simp[du,ch,c];omega
def Ov{a:bY}(d:a.b5.length<=8)(c:a.name=[]):(du (.mk a []):Int)<=60:=by simp[du,ch,c];omega
def zl{a:bY}{e:az}(c:a.name.length+a.b5.length<=8):(du (.mk a [e]):Int)<=60+du e:=by simp[du,ch];omega
def Ow{a:bY}{e f:az}(c:a.name.length+a.b5.length<=8):(du (.mk a [e,f]):Int)<=60+du e+du f:=by simp[du,ch];omega
def abR{a:bY}{l:List az}(c:a.name.length+a.b5.length<=8):(du (.mk a l):Int)<=60+ch l:=by simp[du];omega
structure O8(T:List Tok)(E:Int)(n:Nat):Prop where
 expr:∀lev s p,lev<=5->cP E s->dm T n lev s=some p->p.2.an=0->m E s p.2 1/\ha s.aY s.at_ (lev+1) p.1 p.2.at_
 Gi:∀lev e a0 s p,lev<=4->cP E s->(s.an=0->ha s.aY a0 (lev+1) e s.at_)->fL T n lev e s=some p->p.2.an=0->m E s p.2 0/\ha s.aY a0 (lev+1) p.1 p.2.at_
 unary:∀s p,cP E s->gb T n s=some p->p.2.an=0->m E s p.2 1/\ha s.aY s.at_ 6 p.1 p.2.at_
 sign:∀k s p,k=12\/k=13->cP E s->gZ T n k s=some p->p.2.an=0->m E s p.2 1/\ha s.aY s.at_ 6 p.1 p.2.at_
 behind:∀e a0 s p,cP E s->(s.an=0->ha s.aY a0 7 e s.at_)->eG T n e s=some p->p.2.an=0->m E s p.2 0/\ha s.aY a0 7 p.1 p.2.at_
 inner:∀s p,cP E s->eT T n s=some p->p.2.an=0->m E s p.2 1/\ha (s.aY+1) s.at_ 0 p.1 p.2.at_
 first:∀s p,cP E s->dL T n s=some p->p.2.an=0->m E s p.2 1/\ha s.aY s.at_ 7 p.1 p.2.at_
 fresh:∀pos s p,cP E s->fY T n pos s=some p->p.2.an=0->m E s p.2 1/\ha s.aY (s.at_-1) 7 p.1 p.2.at_
 args:∀s p,cP E s->fD T n s=some p->p.2.an=0->m E s p.2 1/\(ch p.1:Int)<=60*(p.2.at_-s.at_)/\∃d:Nat,s.aY+1+d<=50/\∀e∈p.1,cx d 0 e
 Ey:∀l a0 s p,cP E s->1<=s.aY->(s.an=0->(ch l:Int)<=60*(s.at_-a0)/\∃d:Nat,s.aY+d<=50/\∀e∈l,cx d 0 e)->e2 T n l s=some p->p.2.an=0->(s.an=0/\p.2.aY=s.aY-1/\s.at_+1<=p.2.at_/\p.2.at_<=E)/\(ch p.1:Int)<=60*(p.2.at_-a0)/\∃d:Nat,s.aY+d<=50/\∀e∈p.1,cx d 0 e
def gr{α c:Type}{x:Option α}{f:α->Option c}{b:c}(h:x.bind f=I b):∃a,x=I a/\f a=I b:=ct.1 h
def JI{x:ay}:∀l:List (ay×Int),k8 x l≠0->∃k,(x,k)∈l/\k8 x l=k
 |[],h=>absurd rfl h
 |(y,k)::r,h=>by
  rw[k8]at h ⊢;cases a:y==x with
  |true=>
   obtain rfl:y=x:=by simpa using a
   rw[aK];exact⟨k,hi,rfl⟩
  |false=>
   rw[a,aH]at h;rw[aH];obtain⟨k,c,d⟩:=JI r h;exact⟨k,ij _ c,d⟩
def Tk(lev:Nat):Bool:=(hE[lev]?.getD []).all λp=>decide (14<=p.2)&&decide (p.2<=24)&&cW p.2==lev+1
def Tl:(List.range 5).all Tk=true:=by decide+kernel
def S8{lev:Nat}(ak:lev<=4){t:Tok}(h:ey lev t≠0):t.kind=4/\14<=ey lev t/\ey lev t<=24/\cW (ey lev t)=lev+1/\(t.text,ey lev t)∈hE[lev]?.getD []:=by
 unfold ey at h ⊢;cases a:(t.kind != 4)with
 |true=>rw[a,aK]at h;exact absurd rfl h
 |false=>
  rw[a,aH]at h;rw[aH];obtain⟨k,c,d⟩:=JI _ h;have:=DE.1 (DE.1 Tl lev (List.mem_range.2 ae)) _ c;simp only[de,decide_eq_true_eq,beq_iff_eq]at this;rw[d];exact⟨by simpa using a,this.1.1,this.1.2,this.2,c⟩
def sU{o:Int}{d a:Nat}(h:o+d<=50)(aU:o+a<=50):o+(max d a:Nat)<=50:=ae
def LB{T:List Tok}{E:Int}(ar:Good T E):∀n,O8 T E n
 |0=>by
  constructor<;>intros<;>rename_i h _<;>first|cases h|skip
 |n+1=>by
  have H:=LB ar n;refine⟨?_,?_,?_,?_,?_,?_,?_,?_,?_,?_⟩
  ·intro lev s p ak i h w;rw[dm]at h;split at h
   ·rename_i ah;subst ah;exact H.unary s p i h w
   ·obtain⟨q,K,C⟩:=gr h;have y:=λj=>H.expr (lev+1) s q ae i K j
    obtain⟨L,M⟩:=H.Gi lev q.1 s.at_ q.2 p ae (λj=>(y j).1.in (i (y j).1.f) ae) (λj=>by rw[(y j).1.o];exact(y j).2.low ae) C w;have y:=y L.f;exact⟨(y.1.trans L).less ae,by rw[y.1.o]at M;exact M⟩
  ·intro lev e a0 s p ak i he h w;rw[fL]at h;cases N:(s.an==0&&ey lev (G T s.at_) != 0)with
   |false=>
    rw[N,aH]at h;cases h;exact⟨.refl (i w) w,he w⟩
   |true=>
    rw[N,aK]at h;simp only[de,beq_iff_eq,bne_iff_ne,ne_eq]at N;obtain⟨v,aV⟩:=N;obtain⟨a7,a2,a3,aM,-⟩:=S8 ak aV;have x:=(go_ok ar (i v) v ae).2;have S:=x.in (i v) ae;obtain⟨q,K,C⟩:=gr h;have y:=λj=>H.expr (lev+1) (ao s) q ae (λ_=>S) K j
    have key:∀j:q.2.an=0,ha q.2.aY a0 (lev+1) (.mk {kind:=ey lev (G T s.at_),pos:=(G T s.at_).pos} [e,q.1]) q.2.at_:=by
     intro j;obtain⟨A,af,d,aa,O⟩:=y j;obtain⟨i2,Q,i3,i4⟩:=he v;have:=Ow (a:={kind:=ey lev (G T s.at_),pos:=(G T s.at_).pos}) (e:=e) (f:=q.1) (by simp);have ab:=x.a;have go:=x.o;have aA:=A.o;refine⟨ae,max d Q,by rw[aA,go];exact sU (by rw[<-go];exact aa) i3,?_⟩;refine .bin ae a2 a3 ?_ ?_
     ·rw[aM];exact i4.more ae
     ·rw[aM];exact O.more ae
    obtain⟨L,M⟩:=H.Gi lev _ a0 q.2 p ak (λj=>(y j).1.in S ae) key C w;have y:=y L.f;refine⟨((x.trans y.1).trans L).less ae,?_⟩;rw[y.1.o,x.o]at M;exact M
  ·intro s p i h w;rw[gb]at h;cases F:aS T s [45]with
   |true=>rw[F,aK]at h;exact H.sign 12 s p (.inl rfl) i h w
   |false=>
    rw[F,aH]at h;cases aj:aS T s [33]with
    |true=>rw[aj,aK]at h;exact H.sign 13 s p (.inr rfl) i h w
    |false=>
     rw[aj,aH]at h;obtain⟨q,K,C⟩:=gr h;have y:=λj=>H.first s q i K j
     obtain⟨L,M⟩:=H.behind q.1 s.at_ q.2 p (λj=>(y j).1.in (i (y j).1.f) ae) (λj=>by rw[(y j).1.o];exact(y j).2) C w;have y:=y L.f;exact⟨(y.1.trans L).less ae,by rw[y.1.o]at M;exact M.low ae⟩
  ·intro k s p aT i h w;rw[gZ]at h;obtain⟨q,K,C⟩:=gr h;cases C;have j:q.2.an=0:=w;have aX:(cl T (G T s.at_).text s).an=0->cP E (cl T (G T s.at_).text s):=λv _=>(jx ar i v).2.2.2.2.1
   obtain⟨A,af,d,aa,O⟩:=H.expr 5 _ q ae (λv=>aX v v) K j;obtain⟨br,bI,b2,cM,P,aw⟩:=jx ar i A.f;have aQ:=A.in P ae;have aW:=BO aQ;simp only[aW]at w ⊢;have aL:=A.a;have aA:=A.o;have aE:=A.b;have:=zl (a:={kind:=k,pos:=(G T s.at_).pos}) (e:=q.1) (by simp);refine⟨⟨bI,w,by(try simp only);omega,by(try simp only);omega,aE⟩,by(try simp only);omega,d+1,ae,.sign ae aT O⟩
  ·intro e a0 s p i he h w;rw[eG]at h;cases F:aS T s [46]with
   |true=>
    rw[F,aK]at h;have v:=(eU F).1;have x:=gw ar (i v) F;have S:=x.in (i v) ae;have ai:=λj=>la ar (s:=ao s) (λ_=>S) j
    obtain⟨i2,Q,i3,i4⟩:=he v;obtain⟨L,M⟩:=H.behind _ a0 _ p (λj=>(ai j).2.in S ae) (λj=>by
     obtain⟨W,n2⟩:=ai j;have:=zl (a:={kind:=5,name:=(bv T (ao s)).1,pos:=(G T s.at_).pos}) (e:=e) (by have:=gR W;simp;omega);have aI:=n2.a;have ab:=x.a;refine⟨ae,Q,by rw[n2.o,x.o];exact i3,.field ae W i4⟩) h w
    have n2:=(ai L.f).2;refine⟨((x.trans n2).trans L).less ae,?_⟩;rw[n2.o,x.o]at M;exact M
   |false=>
    rw[F,aH]at h;cases aj:aS T s [91]with
    |true=>
     rw[aj,aK]at h;have v:=(eU aj).1;obtain⟨q,K,C⟩:=gr h;obtain⟨i2,Q,i3,i4⟩:=he v;have y:=λj=>H.expr 0 _ q ae (λv=>(jx ar i v).2.2.2.2.1) K j
     have aP:(cV T [93] q.2).an=0->q.2.an=0:=λV=>by
      have aU:(bg T [93] q.2).an=0:=V;unfold bg at aU;cases R:aS T q.2 [93]with
      |true=>exact(eU R).1
      |false=>rw[R,aH]at aU;exact absurd aU (ej aC)
     have key:∀V:(cV T [93] q.2).an=0,m E s (cV T [93] q.2) 3/\ha s.aY a0 7 (.mk {kind:=6,pos:=(G T s.at_).pos} [e,q.1]) (cV T [93] q.2).at_:=by
      intro V;obtain⟨A,af,d,aa,O⟩:=y (aP V);obtain⟨br,bI,b2,cM,P,aw⟩:=jx ar i A.f;have N:=sX ar ae b2.symm cM.symm v P A V;have aB:=N.a;have aE:q.2.at_+1<=(cV T [93] q.2).at_:=by
       have aU:(bg T [93] q.2).an=0:=V;have:=(fo ar (λ_=>A.in P ae) aU).2.2.a;exact this
      have:=Ow (a:={kind:=6,pos:=(G T s.at_).pos}) (e:=e) (f:=q.1) (by simp);refine⟨N.less ae,ae,max Q (d+1),sU i3 ae,?_⟩;obtain⟨z,R⟩:∃z,max Q (d+1)=z+1:=⟨max Q (d+1)-1,ae⟩;rw[R];exact .item ae (i4.more ae) ((O.low ae).more ae)
     obtain⟨L,M⟩:=H.behind _ a0 _ p (λV=>(key V).1.in (i v) ae) (λV=>by rw[(key V).1.o];exact(key V).2) C w;have ap:=(key L.f).1;refine⟨(ap.trans L).less ae,?_⟩;rw[ap.o]at M;exact M
    |false=>
     rw[aj,aH]at h;cases h;exact⟨.refl (i w) w,he w⟩
  ·intro s p i h w;rw[eT]at h;obtain⟨q,K,C⟩:=gr h;cases C;have j:q.2.an=0:=by
    have aU:(bg T [41] q.2).an=0:=w;unfold bg at aU;cases R:aS T q.2 [41]with
    |true=>exact(eU R).1
    |false=>rw[R,aH]at aU;exact absurd aU (ej aC)
   obtain⟨A,af,d,aa,O⟩:=H.expr 0 _ q ae (λv=>(jx ar i v).2.2.2.2.1) K j;obtain⟨br,bI,b2,cM,P,aw⟩:=jx ar i A.f;have N:=sX ar ae b2.symm cM.symm bI P A w;have aB:=N.a;have aE:q.2.at_+1<=(cV T [41] q.2).at_:=by
    have aU:(bg T [41] q.2).an=0:=w;exact(fo ar (λ_=>A.in P ae) aU).2.2.a
   refine⟨N.less ae,by(try simp only);omega,d,by rw[<-b2];exact aa,O.low ae⟩
  ·intro s p i h w;rw[dL]at h;cases y:(s.an==0&&(G T s.at_).kind==2)with
   |true=>
    rw[y,aK]at h;cases h;simp only[de,beq_iff_eq]at y;have x:=(go_ok ar (i y.1) y.1 ae).2;have ai:=abq ar y.2;have ab:=x.a;have:=zk (a:={kind:=1,n:=(G T s.at_).n,pos:=(G T s.at_).pos}) (by simp) rfl;have ad:=(i y.1).d;exact⟨x,by(try simp only);omega,0,by simpa using ad,.int ae ai.1 ai.2⟩
   |false=>
    rw[y,aH]at h;cases al:(aS T s [116,114,117,101]||aS T s [102,97,108,115,101])with
    |true=>
     rw[al,aK]at h;cases h;have x:m E s (ao s) 1:=by
      rcases jk.1 al with F|F<;>exact gw ar (i (eU F).1) F
     have ab:=x.a;have ad:=(i x.f).d;have:=zk (a:={kind:=2,n:=bif (G T s.at_).text==[116,114,117,101]then 1 else 0,pos:=(G T s.at_).pos}) (by simp) rfl;refine⟨x,by(try simp only);omega,0,by simpa using ad,.bool ae ?_⟩;cases(G T s.at_).text==[116,114,117,101]
     ·exact .inl rfl
     ·exact .inr rfl
    |false=>
     rw[al,aH]at h;cases ay:aS T s [110,117,108,108]with
     |true=>
      rw[ay,aK]at h;cases h;have v:=(eU ay).1;have x:=gw ar (i v) ay;obtain⟨br,bI⟩:=nc ar (x.gK i ae) w;have ab:=x.a;have a1:=bI.a;have ad:=(i v).d;have:=Ov (a:={kind:=3,b5:=(cz T (ao s)).1.1,ci:=(cz T (ao s)).1.2,pos:=(G T s.at_).pos}) (iU br) rfl;exact⟨(x.trans bI).less ae,by(try simp only);omega,0,by simpa using ad,.null ae br⟩
     |false=>
      rw[ay,aH]at h;cases am:aS T s [110,101,119]with
      |true=>
       rw[am,aK]at h;have v:=(eU am).1;have x:=gw ar (i v) am;obtain⟨L,M⟩:=H.fresh _ _ p (x.gK i ae) h w;have ab:=x.a;have aN:=(go_ok ar (i v) v (by rw[(eU am).2.1];exact Bd _)).1;rw[x.o]at M;exact⟨(x.trans L).less ae,M.wide (by rw[aN];simp) (Int.le_refl _)⟩
      |false=>
       rw[am,aH]at h;cases ah:aS T s [108,101,110]with
       |true=>
        rw[ah,aK]at h;have v:=(eU ah).1;have x:=gw ar (i v) ah;obtain⟨q,K,C⟩:=gr h;cases C;obtain⟨A,af,d,aa,O⟩:=H.inner _ q (x.gK i ae) K w;have ab:=x.a;have go:=x.o;have:=zl (a:={kind:=10,pos:=(G T s.at_).pos}) (e:=q.1) (by simp);exact⟨(x.trans A).less ae,by(try simp only);omega,d+1,ae,.len ae O⟩
       |false=>
        rw[ah,aH]at h;cases az:aS T s [114,101,97,100]with
        |true=>
         rw[az,aK]at h;cases h;have v:=(eU az).1;have x:=gw ar (i v) az;have j:(cl T [40] (ao s)).an=0:=by
          have aU:(bg T [41] (cl T [40] (ao s))).an=0:=w;unfold bg at aU;cases R:aS T (cl T [40] (ao s)) [41]with
          |true=>exact(eU R).1
          |false=>rw[R,aH]at aU;exact absurd aU (ej aC)
         obtain⟨br,bI,b2,cM,P,aw⟩:=jx ar (x.gK i ae) j;have N:=sX ar (k:=0) ae b2.symm cM.symm bI P (.refl P j) w;have ab:=x.a;have go:=x.o;have aB:=N.a;have:=zk (a:={kind:=11,pos:=(G T s.at_).pos}) (by simp) rfl;exact⟨(x.trans N).less ae,by(try simp only);omega,1,ae,.read ae⟩
        |false=>
         rw[az,aH]at h;cases aJ:aS T s [40]with
         |true=>
          rw[aJ,aK]at h;obtain⟨A,af,d,aa,O⟩:=H.inner s p i h w;exact⟨A,af,d+1,ae,O.up ae⟩
         |false=>
          rw[aJ,aH]at h;have ad:s.an=0->s.aY<=50:=λv=>(i v).d
          cases aD:aS T (bv T s).2 [40]with
          |true=>
           rw[aD,aK]at h;obtain⟨q,K,C⟩:=gr h;cases C;obtain⟨W,n2⟩:=la ar i (eU aD).1;obtain⟨L,M,d,ap,av⟩:=H.args _ q (n2.gK i ae) K w;have aI:=n2.a;have a5:=n2.o;have:=abR (a:={kind:=7,name:=(bv T s).1,pos:=(G T s.at_).pos}) (l:=q.1) (by have:=gR W;simp;omega);exact⟨(n2.trans L).less ae,by(try simp only);omega,d+1,ae,.call ae W av⟩
          |false=>
           rw[aD,aH]at h;cases h;obtain⟨W,n2⟩:=la ar i w;have aI:=n2.a;have:=zk (a:={kind:=4,name:=(bv T s).1,pos:=(G T s.at_).pos}) (gR W) rfl;exact⟨n2,by(try simp only);omega,0,by simpa using ad n2.f,.var ae W⟩
  ·intro pos s p i h w;rw[fY]at h;cases F:aS T s [91]with
   |true=>
    rw[F,aK]at h;obtain⟨q,K,C⟩:=gr h;cases C;have v:=(eU F).1;have x:=gw ar (i v) F;have S:=x.in (i v) ae;have aq:=λj:(bg T [93] (cz T (ao s)).2).an=0=>by
     have al:(cz T (ao s)).2.an=0:=by
      unfold bg at j;cases R:aS T (cz T (ao s)).2 [93]with
      |true=>exact(eU R).1
      |false=>rw[R,aH]at j;exact absurd j (ej aC)
     have o:=nc ar (λ_=>S) al;exact B o (fo ar (λ_=>o.2.in S ae) j).2.2
    obtain⟨A,af,d,aa,O⟩:=H.inner _ q (λj=>((aq j).1.2.trans (aq j).2).in S ae) K w;obtain⟨⟨br,bI⟩,b2⟩:=aq A.f;have ab:=x.a;have go:=x.o;have a1:=bI.a;have a6:=bI.o;have a4:=b2.a;have to:=b2.o;have:=zl (a:={kind:=9,b5:=(cz T (ao s)).1.1,ci:=(cz T (ao s)).1.2,pos:=pos}) (e:=q.1) (by have:=iU br;simp;omega);exact⟨(((x.trans bI).trans b2).trans A).less ae,by(try simp only);omega,d+1,ae,.make ae br O⟩
   |false=>
    rw[F,aH]at h;cases h;obtain⟨W,n2⟩:=la ar i w;have aI:=n2.a;have ad:=(i n2.f).d;have:=Ov (a:={kind:=8,b5:=(bv T s).1,pos:=pos}) (gR W) rfl;exact⟨n2,by(try simp only);omega,0,by simpa using ad,.new ae W⟩
  ·intro s p i h w;rw[fD]at h;cases F:aS T (cl T [40] s) [41]with
   |true=>
    rw[F,aK]at h;cases h;obtain⟨br,bI,b2,cM,P,aw⟩:=jx ar i (eU F).1;have N:=sX ar (k:=0) ae b2.symm cM.symm bI P (.refl P (eU F).1) w;have aB:=N.a;refine⟨N.less ae,by simp only[ch];omega,0,ae,λe he=>by cases he⟩
   |false=>
    rw[F,aH]at h;obtain⟨q,K,C⟩:=gr h;have y:=λj=>H.expr 0 _ q ae (λv=>(jx ar i v).2.2.2.2.1) K j
    have aO:=λj=>jx ar i (y j).1.f
    by_cases j:q.2.an=0
    ·obtain⟨A,af,d,aa,O⟩:=y j;obtain⟨br,bI,b2,cM,P,aw⟩:=aO j;have aA:=A.o;have aL:=A.a;have N:=(i bI).c;obtain⟨⟨L,M,ap,av⟩,aF,Q,aZ,aG⟩:=H.Ey [q.1] s.at_ q.2 p (λ_=>A.in P ae) ae (λ_=>⟨by simp only[ch];omega,d,ae,λe he=>by
      simp only[fg,xy,or_false]at he;subst he;exact O.low ae⟩) C w
     exact⟨⟨bI,w,ae,ae,av⟩,aF,Q,ae,aG⟩
    ·exfalso;cases n with
     |zero=>rw[e2]at C;cases C
     |succ n=>
      rw[e2,ed j,aH]at C;cases C;have aU:(bg T [41] q.2).an=0:=w;unfold bg at aU;rw[ed j,aH]at aU;exact absurd aU (ej aC)
  ·intro l a0 s p i au he h w;rw[e2]at h;cases F:aS T s [44]with
   |true=>
    rw[F,aK]at h;obtain⟨q,K,C⟩:=gr h;have v:=(eU F).1;have x:=gw ar (i v) F;have S:=x.in (i v) ae;have y:=λj=>H.expr 0 _ q ae (λ_=>S) K j
    by_cases j:q.2.an=0
    ·obtain⟨A,af,d,aa,O⟩:=y j;obtain⟨i2,Q,i3,i4⟩:=he v;have go:=x.o;have ab:=x.a;have aA:=A.o;have aL:=A.a;obtain⟨⟨L,M,ap,av⟩,aF,d2,aZ,aG⟩:=H.Ey (l++[q.1]) a0 q.2 p (λ_=>A.in S ae) ae (λ_=>⟨by rw[Ox];omega,max d Q,sU ae ae,λe he=>by
      rcases OP.1 he with he|he
      ·exact(i4 e he).more ae
      ·simp only[fg,xy,or_false]at he;subst he;exact(O.low ae).more ae⟩) C w
     exact⟨⟨v,ae,ae,av⟩,aF,d2,ae,aG⟩
    ·exfalso;cases n with
     |zero=>rw[e2]at C;cases C
     |succ n=>
      rw[e2,ed j,aH]at C;cases C;have aU:(bg T [41] q.2).an=0:=w;unfold bg at aU;rw[ed j,aH]at aU;exact absurd aU (ej aC)
   |false=>
    rw[F,aH]at h;cases h;have aU:(bg T [41] s).an=0:=w;obtain⟨t1,t2,t3⟩:=fo ar i aU;have v:=t3.f;obtain⟨i2,Q,i3,i4⟩:=he v;have a4:=t3.a;have to:=t3.o;have hJ:=t3.b;have aR:=t3.in (i v) ae;have e:cV T [41] s={bg T [41] s with aY:=(bg T [41] s).aY-1}:=by unfold cV;exact BO aR
    simp only[e]at w ⊢;refine⟨⟨v,by(try simp only);omega,by(try simp only);omega,hJ⟩,by(try simp only);omega,Q,i3,i4⟩
inductive en:Nat->a6->Prop
 |var {d x o z p}:dJ x=true->hb o z->en d (.mk {kind:=1,name:=x,b5:=o,ci:=z,pos:=p} [] [] [])
 |lets {d x o z p e}:dJ x=true->hb o z->cx d 0 e->en d (.mk {kind:=2,name:=x,b5:=o,ci:=z,pos:=p} [e] [] [])
 |set {d x p e}:dJ x=true->cx d 0 e->en d (.mk {kind:=3,name:=x,pos:=p} [e] [] [])
 |put {d p e f}:e.kind=5\/e.kind=6->cx d 0 e->cx d 0 f->en d (.mk {kind:=4,pos:=p} [e,f] [] [])
 |ifs {d p e b c}:cx (d+1) 0 e->(∀s∈b,en d s)->(∀s∈c,en d s)->en (d+1) (.mk {kind:=5,pos:=p} [e] b c)
 |while {d p e b}:cx (d+1) 0 e->(∀s∈b,en d s)->en (d+1) (.mk {kind:=6,pos:=p} [e] b [])
 |lh {d p}:en d (.mk {kind:=7,pos:=p} [] [] [])
 |li {d p e}:cx d 0 e->en d (.mk {kind:=7,pos:=p} [e] [] [])
 |print {d p e}:cx d 0 e->en d (.mk {kind:=8,pos:=p} [e] [] [])
 |call {d p e}:e.kind=7->cx d 0 e->en d (.mk {kind:=9,pos:=p} [e] [] [])
def en.at{d:Nat}{s:a6}(h:en d s)(p:Int):en d (s.at p):=by
 cases h with
 |var a b=>exact .var a b
 |lets a b c=>exact .lets a b c
 |set a b=>exact .set a b
 |put a b c=>exact .put a b c
 |ifs a b c=>exact .ifs a b c
 | «while» a b=>exact .while a b
 |lh=>exact .lh
 |li a=>exact .li a
 |print a=>exact .print a
 |call a b=>exact .call a b
def en.more{d:Nat}{s:a6}(h:en d s):∀{e:Nat},d<=e->en e s:=by
 induction h with
 |var a b=>intro e _;exact .var a b
 |lets a b c=>intro e i;exact .lets a b (c.more i)
 |set a b=>intro e i;exact .set a (b.more i)
 |put a b c=>intro e i;exact .put a (b.more i) (c.more i)
 |ifs a _ _ ih1 ih2=>intro e i;obtain⟨k,rfl⟩:∃k,e=k+1:=⟨e-1,ae⟩;exact .ifs (a.more i) (λs au=>ih1 s au ae) (λs au=>ih2 s au ae)
 | «while» a _ ih1=>intro e i;obtain⟨k,rfl⟩:∃k,e=k+1:=⟨e-1,ae⟩;exact .while (a.more i) (λs au=>ih1 s au ae)
 |lh=>intro e _;exact .lh
 |li a=>intro e i;exact .li (a.more i)
 |print a=>intro e i;exact .print (a.more i)
 |call a b=>intro e i;exact .call a (b.more i)
mutual
def e7:a6->Nat
 | .mk a es b c=>400+a.name.length+a.b5.length+ch es+dN b+dN c
def dN:List a6->Nat
 |[]=>0
 |e::r=>e7 e+dN r
end
def Oz:∀(l:List a6) (e:a6),dN (l++[e])=dN l+e7 e
 |[],e=>by simp[dN]
 |x::l,e=>by rw[cd,dN,Oz l e,dN];omega
def abT(s:a6)(p:Int):e7 (s.at p)=e7 s:=by cases s;rfl
def Oy{a:bR}(c:a.name.length+a.b5.length<=16):(e7 (.mk a [] [] []):Int)<=416:=by simp[e7,ch,dN];omega
def uY{a:bR}{e:az}(c:a.name.length+a.b5.length<=16):(e7 (.mk a [e] [] []):Int)<=416+du e:=by simp[e7,ch,dN];omega
def abU{a:bR}{e f:az}(c:a.name.length+a.b5.length<=16):(e7 (.mk a [e,f] [] []):Int)<=416+du e+du f:=by simp[e7,ch,dN];omega
def DM{a:bR}{e:az}{b c:List a6}(d:a.name.length+a.b5.length<=16):(e7 (.mk a [e] b c):Int)<=416+du e+dN b+dN c:=by simp[e7,ch];omega
section
variable {T:List Tok}{E:Int}{s s' s2:am}
def m.to{y:am}{k:Int}(c:cP E s)(h:y.an=0->m E s y k)(d:0<=k):cP E y:=λa=>(h a).in (c (h a).f) d
def g_(T:List Tok):Prop:=∀s,∃p,dm T 800000000 0 s=I p
def oy(ar:Good T E)(e:g_ T)(i:cP E s)(h:(bM T s).2.an=0):m E s (bM T s).2 1/\ha s.aY s.at_ 0 (bM T s).1 (bM T s).2.at_:=by
 obtain⟨p,a⟩:=e s;unfold bM at h ⊢;rw[a]at h ⊢;obtain⟨c,d⟩:=(LB ar 800000000).expr 0 s p ae i a h;exact⟨c,d.low ae⟩
def DF(ar:Good T E)(i:cP E s)(h:(cT T s).2.an=0):dJ (cT T s).1.1=Y/\hb (cT T s).1.2.1 (cT T s).1.2.2/\m E s (cT T s).2 3:=by
 have c:=λj=>la ar i j
 have d:=λj=>fo ar (s:=(bv T s).2) (x:=[58]) (m.to i (λa=>(c a).2) ae) j
 have e:=nc ar (s:=bg T [58] (bv T s).2) (m.to i (λa=>(c (d a).2.2.f).2.trans (d a).2.2) ae) h;have l:=d e.2.f;have k:=c l.2.2.f;exact⟨k.1,e.1,((k.2.trans l.2.2).trans e.2).less ae⟩
structure O9(T:List Tok)(E:Int)(n:Nat):Prop where
 block:∀s p,cP E s->dU T n s=some p->p.2.an=0->m E s p.2 2/\(dN p.1:Int)<=400*(p.2.at_-s.at_-2)/\∃d:Nat,s.aY+(d+1)<=50/\∀x∈p.1,en d x
 loop:∀l a0 s p,cP E s->(s.an=0->(dN l:Int)<=400*(s.at_-a0)/\∃d:Nat,s.aY+d<=50/\∀x∈l,en d x)->fx T n l s=some p->p.2.an=0->m E s p.2 0/\(dN p.1:Int)<=400*(p.2.at_-a0)/\∃d:Nat,s.aY+d<=50/\∀x∈p.1,en d x
 stmt:∀s p,cP E s->gC T n s=some p->p.2.an=0->m E s p.2 2/\(e7 p.1:Int)<=400*(p.2.at_-s.at_)/\∃d:Nat,s.aY+d<=50/\en d p.1
def Ut(ar:Good T E)(K:g_ T)(M:cP E s)(h:(fP T s).2.an=0):m E s (fP T s).2 2/\(e7 (fP T s).1:Int)<=400*((fP T s).2.at_-s.at_)/\∃d:Nat,s.aY+d<=50/\en d (fP T s).1:=by
 have n:=λc=>oy ar K M c
 have A:cP E (bM T s).2:=m.to M (λz=>(n z).1) ae;unfold fP at h ⊢;cases y:aS T (bM T s).2 [61]with
 |true=>
  rw[y,aK]at h;rw[aK];have w:=(eU y).1;obtain⟨k,Q,d,B,p⟩:=n w;have aU:(bg T [59] (bM T (gI T (bM T s).1 (bM T s).2)).2).an=0:=h;have ap:=λc=>fo ar (s:=bif eS (bM T s).1 then bx T 2 (bM T s).2 else(bM T s).2) (x:=[61]) (λi=>by
   cases j:eS (bM T s).1 with
   |true=>rw[j,aK]at i;exact absurd i (ej aC)
   |false=>rw[aH];exact A w) c
  have L:(gI T (bM T s).1 (bM T s).2).an=0->eS (bM T s).1=X/\m E (bM T s).2 (gI T (bM T s).1 (bM T s).2) 1:=λc=>by
   have aE:=(ap c).2.2;cases j:eS (bM T s).1 with
   |true=>
    have:=aE.f;rw[j,aK]at this;exact absurd this (ej aC)
   |false=>
    rw[j,aH]at aE;unfold gI;rw[j,aH];exact⟨rfl,aE⟩
  have i2:cP E (gI T (bM T s).1 (bM T s).2):=λc=>(L c).2.in (A w) ae
  have v:=λc=>oy ar K i2 c
  have i3:cP E (bM T (gI T (bM T s).1 (bM T s).2)).2:=m.to i2 (λz=>(v z).1) ae;obtain⟨-,-,t3⟩:=fo ar i3 aU;obtain⟨C,aa,G,ab,O⟩:=v t3.f;obtain⟨aX,F⟩:=L C.f;have R:=k.a;have S:=k.o;have af:=F.a;have ah:=F.o;have ad:=C.a;have V:=t3.a;have dI:m E s (bg T [59] (bM T (gI T (bM T s).1 (bM T s).2)).2) 2:=(((k.trans F).trans C).trans t3).less ae;simp only[lA];refine⟨dI,?_⟩;cases H:(bM T s).1.kind==4 with
  |true=>
   rw[aK];have l:(bM T s).1.kind=4:=by simpa using H
   have N:dJ (bM T s).1.name=true:=by
    generalize (bM T s).1=e at p l;cases p with
    |par _ h _=>omega
    |var _ h=>exact h
    |bin W n v _ _=>simp only[az.kind]at l;omega
    |sign _ n _=>simp only[az.kind]at l;omega
    |_=>simp[az.kind]at l
   have:=uY (a:={kind:=3,name:=(bM T s).1.name}) (e:=(bM T (gI T (bM T s).1 (bM T s).2)).1) (by have:=gR N;simp;omega);exact⟨ae,G,ae,.set N O⟩
  |false=>
   rw[aH];have l:(bM T s).1.kind≠4:=by simpa using H
   have j:(bM T s).1.kind=5\/(bM T s).1.kind=6:=by
    unfold eS at aX;simp only[BC,bne_eq_false_iff_eq]at aX;rcases aX with q|q|q
    ·exact absurd q l
    ·exact .inl q
    ·exact .inr q
   have:=abU (a:={kind:=4}) (e:=(bM T s).1) (f:=(bM T (gI T (bM T s).1 (bM T s).2)).1) (by simp);exact⟨ae,max d G,sU B ae,.put j (p.more ae) (O.more ae)⟩
 |false=>
  rw[y,aH]at h;rw[aH];have aU:(bg T [59] (bif aS T (bM T s).2 [59]&&(bM T s).1.kind != 7 then bx T 2 (bM T s).2 else(bM T s).2)).an=0:=h;cases i:aS T (bM T s).2 [59]&&(bM T s).1.kind != 7 with
  |true=>
   rw[i,aK]at aU;unfold bg at aU;rw[ed (ej aC),aH,e9 (ej aC)]at aU;exact absurd aU (ej aC)
  |false=>
   rw[i,aH]at aU;obtain⟨t1,t2,t3⟩:=fo ar A aU;obtain⟨k,Q,d,B,p⟩:=n t3.f;rw[t1,zA]at i;have P:(bM T s).1.kind=7:=by simpa using i
   have R:=k.a;have S:=k.o;have V:=t3.a;have:=uY (a:={kind:=9}) (e:=(bM T s).1) (by simp);simp only[aH];exact⟨(k.trans t3).less ae,ae,d,B,.call P p⟩
def wq(ar:Good T E)(N:g_ T):∀n,O9 T E n
 |0=>by
  constructor<;>intros<;>rename_i h _<;>first|cases h|skip
 |n+1=>by
  have R:=wq ar N n;refine⟨?_,?_,?_⟩
  ·intro s p A h K;rw[dU]at h;obtain⟨q,w,V⟩:=gr h;cases V;have i:q.2.an=0:=by
    have aU:(bg T [125] q.2).an=0:=K;unfold bg at aU;cases az:aS T q.2 [125]with
    |true=>exact(eU az).1
    |false=>rw[az,aH]at aU;exact absurd aU (ej aC)
   obtain⟨j,O,d,M,F⟩:=R.loop [] (cl T [123] s).at_ _ q (λal=>(jx ar A al).2.2.2.2.1) (λal=>⟨by simp[dN],0,by have:=(jx ar A al).2.2.2.2.1.d;simpa using this,λx z=>by cases z⟩) w i;obtain⟨br,bI,b2,cM,aG,aW⟩:=jx ar A j.f;have Q:=sX ar (k:=0) ae b2.symm cM.symm bI aG j K;have aP:q.2.at_+1<=(cV T [125] q.2).at_:=by
    have aU:(bg T [125] q.2).an=0:=K;exact(fo ar (λ_=>j.in aG ae) aU).2.2.a
   exact⟨Q.less ae,by(try simp only);omega,d,ae,F⟩
  ·intro l a0 s p A ay h K;rw[fx]at h;cases Q:(s.an==0&& !aS T s [125])with
   |false=>
    rw[Q,aH]at h;cases h;exact⟨.refl (A K) K,ay K⟩
   |true=>
    rw[Q,aK]at h;simp only[de,beq_iff_eq]at Q;obtain⟨q,w,V⟩:=gr h;have aj:=λi=>R.stmt s q A w i
    obtain⟨i2,aJ,i3,i4⟩:=ay Q.1;obtain⟨ad,aq,d2,au,av⟩:=R.loop (l++[q.1]) a0 q.2 p (m.to A (λC=>(aj C).1) ae) (λi=>by
     obtain⟨j,O,d,M,F⟩:=aj i;refine⟨by rw[Oz];omega,max d aJ,by rw[j.o];exact sU M i3,λx z=> ?_⟩;rcases OP.1 z with z|z
     ·exact(i4 x z).more ae
     ·simp only[fg,xy,or_false]at z;subst z;exact F.more ae) V K
    have j:=(aj ad.f).1;exact⟨(j.trans ad).less ae,aq,d2,by rw[<-j.o];exact au,av⟩
  ·intro s p A h K;rw[gC]at h;obtain⟨q,w,V⟩:=gr h;cases V;have key:m E s q.2 2/\(e7 q.1:Int)<=400*(q.2.at_-s.at_)/\∃d:Nat,s.aY+d<=50/\en d q.1:=by
    have i:q.2.an=0:=K;clear K;cases aQ:(aS T s [118,97,114]||aS T s [108,101,116])with
    |true=>
     rw[aQ,aK]at w;have v:m E s (ao s) 1:=by
      rcases jk.1 aQ with z|z<;>exact gw ar (A (eU z).1) z
     have B:=v.gK A ae;have aa:=v.a;have go:=v.o;have t1:=λi=>DF ar B i
     have am:cP E (cT T (ao s)).2:=m.to B (λC=>(t1 C).2.2) ae;cases c2:(G T s.at_).text==[108,101,116]with
     |true=>
      rw[c2,aK]at w;cases w;have ap:=λi=>fo ar (x:=[61]) am i
      have aB:cP E (bg T [61] (cT T (ao s)).2):=m.to am (λC=>(ap C).2.2) ae;have y:=λi=>oy ar N aB i
      have L:cP E (bM T (bg T [61] (cT T (ao s)).2)).2:=m.to aB (λC=>(y C).1) ae;obtain⟨-,-,eC⟩:=fo ar (x:=[59]) L i;obtain⟨j,O,d,M,F⟩:=y eC.f;obtain⟨-,-,af⟩:=ap j.f;obtain⟨W,n2,S⟩:=t1 af.f;have ah:=eC.a;have aD:=j.a;have aX:=af.a;have aZ:=af.o;have aO:=S.a;have aV:=S.o;have:=uY (a:={kind:=2,name:=(cT T (ao s)).1.1,b5:=(cT T (ao s)).1.2.1,ci:=(cT T (ao s)).1.2.2}) (e:=(bM T (bg T [61] (cT T (ao s)).2)).1) (by have:=gR W;have:=iU n2;simp;omega);simp only[ju];exact⟨((((v.trans S).trans af).trans j).trans eC).less ae,ae,d,ae,.lets W n2 F⟩
     |false=>
      rw[c2,aH]at w;cases w;obtain⟨-,-,eC⟩:=fo ar (x:=[59]) am i;obtain⟨W,n2,S⟩:=t1 eC.f;have ah:=eC.a;have aO:=S.a;have ak:=(A v.f).d;have:=Oy (a:={kind:=1,name:=(cT T (ao s)).1.1,b5:=(cT T (ao s)).1.2.1,ci:=(cT T (ao s)).1.2.2}) (by have:=gR W;have:=iU n2;simp;omega);simp only[ji];exact⟨((v.trans S).trans eC).less ae,ae,0,by simpa using ak,.var W n2⟩
    |false=>
     rw[aQ,aH]at w;cases c2:aS T s [105,102]with
     |true=>
      rw[c2,aK]at w;have v:=gw ar (A (eU c2).1) c2;have B:=v.gK A ae;have aa:=v.a;have go:=v.o;have y:=λi=>oy ar N B i
      have L:cP E (bM T (ao s)).2:=m.to B (λC=>(y C).1) ae;obtain⟨b,ai,P⟩:=gr w;have bf:=λi=>R.block _ b L ai i
      cases c3:aS T b.2 [101,108,115,101]with
      |true=>
       rw[c3,aK]at P;obtain⟨c,aM,g6⟩:=gr P;cases g6;have aw:=bf (eU c3).1;have aA:cP E b.2:=aw.1.gK L ae;have ab:=gw ar (aA (eU c3).1) c3;obtain⟨aF,aR,d2,aT,aN⟩:=R.block _ c (ab.gK aA ae) aM i;obtain⟨H,aE,d1,dt,eI⟩:=aw;obtain⟨j,O,d,M,F⟩:=y H.f;have:=DM (a:={kind:=5}) (e:=(bM T (ao s)).1) (b:=b.1) (c:=c.1) (by simp);have aI:=j.a;have a2:=H.a;have a3:=ab.a;have a4:=aF.a;have br:=j.o;have bI:=H.o;have b2:=ab.o;refine⟨((((v.trans j).trans H).trans ab).trans aF).less ae,by(try simp only);omega,max (d-1) (max d1 d2)+1,ae,.ifs (F.more ae) (λx z=>(eI x z).more ae) (λx z=>(aN x z).more ae)⟩
      |false=>
       rw[c3,aH]at P;cases P;obtain⟨H,aE,d1,dt,eI⟩:=bf i;obtain⟨j,O,d,M,F⟩:=y H.f;have:=DM (a:={kind:=5}) (e:=(bM T (ao s)).1) (b:=b.1) (c:=[]) (by simp);have aI:=j.a;have a2:=H.a;have br:=j.o;have aL:dN []=0:=rfl;refine⟨((v.trans j).trans H).less ae,by(try simp only);omega,max (d-1) d1+1,ae,.ifs (F.more ae) (λx z=>(eI x z).more ae) (λx z=>by cases z)⟩
     |false=>
      rw[c2,aH]at w;cases c3:aS T s [119,104,105,108,101]with
      |true=>
       rw[c3,aK]at w;have v:=gw ar (A (eU c3).1) c3;have B:=v.gK A ae;have aa:=v.a;have go:=v.o;have y:=λi=>oy ar N B i
       have L:cP E (bM T (ao s)).2:=m.to B (λC=>(y C).1) ae;obtain⟨b,ai,P⟩:=gr w;cases P;obtain⟨H,aE,d1,dt,eI⟩:=R.block _ b L ai i;obtain⟨j,O,d,M,F⟩:=y H.f;have:=DM (a:={kind:=6}) (e:=(bM T (ao s)).1) (b:=b.1) (c:=[]) (by simp);have aI:=j.a;have a2:=H.a;have br:=j.o;have aL:dN []=0:=rfl;refine⟨((v.trans j).trans H).less ae,by(try simp only);omega,max (d-1) d1+1,ae,.while (F.more ae) (λx z=>(eI x z).more ae)⟩
      |false=>
       rw[c3,aH]at w;cases c4:aS T s [114,101,116,117,114,110]with
       |true=>
        rw[c4,aK]at w;have v:=gw ar (A (eU c4).1) c4;have B:=v.gK A ae;have aa:=v.a;have go:=v.o;have ak:=(A v.f).d;cases w;unfold iX at i ⊢;cases c5:aS T (ao s) [59]with
        |true=>
         rw[c5,aK]at i;rw[aK];obtain⟨-,-,eC⟩:=fo ar (x:=[59]) B i;have ah:=eC.a;have:=Oy (a:={kind:=7}) (by simp);exact⟨(v.trans eC).less ae,by(try simp only);omega,0,by simpa using ak,.lh⟩
        |false=>
         rw[c5,aH]at i;rw[aH];have y:=λi=>oy ar N B i
         have L:cP E (bM T (ao s)).2:=m.to B (λC=>(y C).1) ae;obtain⟨-,-,eC⟩:=fo ar (x:=[59]) L i;obtain⟨j,O,d,M,F⟩:=y eC.f;have ah:=eC.a;have aD:=j.a;have:=uY (a:={kind:=7}) (e:=(bM T (ao s)).1) (by simp);exact⟨((v.trans j).trans eC).less ae,by(try simp only);omega,d,ae,.li F⟩
       |false=>
        rw[c4,aH]at w;cases c5:aS T s [112,114,105,110,116]with
        |true=>
         rw[c5,aK]at w;have v:=gw ar (A (eU c5).1) c5;have B:=v.gK A ae;have aa:=v.a;have go:=v.o;cases w;unfold ku at i ⊢;have y:=λi=>oy ar N B i
         have L:cP E (bM T (ao s)).2:=m.to B (λC=>(y C).1) ae;obtain⟨-,-,eC⟩:=fo ar (x:=[59]) L i;obtain⟨j,O,d,M,F⟩:=y eC.f;have ah:=eC.a;have aD:=j.a;have:=uY (a:={kind:=8}) (e:=(bM T (ao s)).1) (by simp);exact⟨((v.trans j).trans eC).less ae,by(try simp only);omega,d,ae,.print F⟩
        |false=>
         rw[c5,aH]at w;cases w;exact Ut ar N A i
   obtain⟨ad,aq,d,au,av⟩:=key;exact⟨ad,by rw[abT];exact aq,d,au,av.at _⟩
end
section
def cA{α:Type}(F:am->V α):Prop:=∀s x,F s=I x->x.2.an=0->s.an=0/\(0<=s.aY->x.2.aY=s.aY/\x.2.bl=s.bl)
def dn(f:am->am):Prop:=∀s,(f s).an=0->s.an=0/\(f s).aY=s.aY/\(f s).bl=s.bl
def cA.bind{α n:Type}{F:am->V α}{a:α->am->V n}(h:cA F)(l:∀x,cA (a x)):cA λs=>(F s).bind λp=>a p.1 p.2:=by
 intro s x m k;obtain⟨p,i,j⟩:=ew m;obtain⟨d,e⟩:=l p.1 p.2 x j k;obtain⟨f1,f2⟩:=h s p i d;refine⟨f1,λc=> ?_⟩;obtain⟨ap,aE⟩:=f2 c;obtain⟨bB,cc⟩:=e (by rw[ap];exact c);exact⟨bB.trans ap,cc.trans aE⟩
def cA.none{α:Type}{F:am->V α}(h:∀s,F s=u):cA F:=λs x a=>by rw[h]at a;cases a
def cA.KR{α:Type}{f:am->α×am}(h:dn λs=>(f s).2):cA λs=>I (f s):=λs x e d=>by
 cases e;obtain⟨a,c⟩:=h s d;exact⟨a,λ_=>c⟩
def dn.comp{f g:am->am}(h:dn f)(k:dn g):dn λs=>g (f s):=λs au=>by
 obtain⟨aI,a2,a3⟩:=k _ au;obtain⟨bf,bo,b3⟩:=h _ aI;exact⟨bf,a2.trans bo,a3.trans b3⟩
def cA.pre{α:Type}{F:am->V α}{f:am->am}(h:dn f)(k:cA F):cA λs=>F (f s):=λs x d a=>by
 obtain⟨aI,a2⟩:=k _ x d a;obtain⟨bf,bo,b3⟩:=h s aI;refine⟨bf,λc=> ?_⟩;obtain⟨aQ,c2⟩:=a2 (by rw[bo];exact c);exact⟨aQ.trans bo,c2.trans b3⟩
def dn.go:dn ao:=λs h=>⟨h,rfl,rfl⟩
def dn.id:dn λs=>s:=λs h=>⟨h,rfl,rfl⟩
variable {T:List Tok}
def iQ{s:am}{e:Int}(a:e≠0)(h:(bx T e s).an=0):False:=by
 unfold bx at h;split at h
 ·exact a h
 ·rename_i au;exact au h
def dn.kM(x:ay):dn λs=>(bD T x s).2:=λs h=>by
 have h:(bD T x s).2.an=0:=h;show s.an=0/\(bD T x s).2.aY=s.aY/\(bD T x s).2.bl=s.bl;cases a:a8 T s 4 x with
 |true=>
  have e:(bD T x s).2=ao s:=by simp[bD,a]
  rw[e]at h ⊢;exact⟨h,rfl,rfl⟩
 |false=>
  have e:(bD T x s).2=bx T 2 s:=by simp[bD,a]
  rw[e]at h;exact(iQ aC h).elim
def dn.is(x:ay):∀n:Nat,dn (is T x n)
 |0=>dn.id
 |n+1=>dn.comp (f:=λs=>(bD T x s).2) (g:=YtghmbpmaafnodaaGreatDoor.is T x n) (dn.kM x) (dn.is x n)
def Kp:∀(n:Nat) (d:Int) (s:am),(∀c s',fz T n d s= .inl (c,s')->s'.an=0->s.an=0/\s'.aY=s.aY/\s'.bl=s.bl)/\∀s',fz T n d s= .inr s'->s'.an≠0
 |0,d,s=>by
  simp only[fz];cases a8 T s 4 [91]with
  |true=>exact⟨λ_ _ h=>(by cases h),λs' h e=>by cases h;exact iQ aC e⟩
  |false=>exact⟨λ_ _ h a=>(by cases h;exact⟨a,rfl,rfl⟩),λ_ h=>(by cases h)⟩
 |n+1,d,s=>by
  simp only[fz];cases a8 T s 4 [91]with
  |true=>exact Kp n (d+1) (ao s)
  |false=>exact⟨λ_ _ h a=>(by cases h;exact⟨a,rfl,rfl⟩),λ_ h=>(by cases h)⟩
def dn.of:dn λs=>(cq T s).2:=λs h=>by
 obtain⟨c,i2⟩:=Kp (T:=T) 3 0 s;have aU:(cq T s).2.an=0:=h;show s.an=0/\(cq T s).2.aY=s.aY/\(cq T s).2.bl=s.bl;unfold cq at aU ⊢;cases ak:fz T 3 0 s with
 |inr s'=>rw[ak]at aU;exact absurd aU (i2 s' ak)
 |inl p=>
  obtain⟨d,s1⟩:=p;rw[ak]at aU;simp only at aU ⊢;cases a:((G T s1.at_).kind != 1&&(!a8 T s1 3 [105,110,116]&& !a8 T s1 3 [98,111,111,108]))with
  |true=>
   simp only[fy,a,aK]at aU;exact(iQ aC aU).elim
  |false=>
   simp only[fy,a,aH]at aU ⊢;obtain⟨aI,a2,a3⟩:=dn.comp dn.go (dn.is [93] d.toNat) s1 aU;obtain⟨bf,bo,b3⟩:=c d s1 ak aI;exact⟨bf,a2.trans bo,a3.trans b3⟩
def Kq{s:am}{x:ay}(h:(cp T x s).1=Y):s.an=0/\s.aY<50/\(cp T x s).2={s with at_:=dY (s.at_+1),aY:=dY (s.aY+1)}:=by
 unfold cp at h ⊢;cases a:a8 T s 4 x with
 |false=>rw[a]at h;cases h
 |true=>
  rw[a]at h;simp only[aK]at h ⊢;split at h
  ·cases h
  ·rename_i c;rw[if_neg c];exact⟨(km a).1,ae,rfl⟩
def Ko{s:am}{x:ay}(h:(cp T x s).1=X):(cp T x s).2.an≠0:=by
 unfold cp at h ⊢;cases c:a8 T s 4 x with
 |false=>exactλa=>iQ aC a
 |true=>
  rw[c]at h;simp only[aK]at h ⊢;split at h
  ·rename_i d;rw[if_pos d];exactλa=>iQ aC a
  ·cases h
def zj{o:Int}(a:0<=o)(c:o<50):dY (o+1)=o+1/\dY (o+1-1)=o:=⟨wrap_i64 ae ae,by rw[show o+1-1=o by omega];exact wrap_i64 ae ae⟩
def cA.within{α i:Type}{F:am->V α}{g:am->α->i}{v:i}{w:am->am}{x:ay}(h:cA F)(l:∀s,(w s).an=0->s.an=0/\(w s).aY=dY (s.aY-1)/\(w s).bl=s.bl):
  cA λs=>bif (cp T x s).1 then(F (cp T x s).2).bind λp=>I (g s p.1,w p.2)else I (v,(cp T x s).2):=by
 intro s y c e;cases a:(cp T x s).1 with
 |false=>
  simp only[a,aH,aT]at c;subst c;exact absurd e (Ko a)
 |true=>
  obtain⟨br,bI,b2⟩:=Kq a;simp only[a,aK]at c;obtain⟨p,k,d⟩:=ew c;simp only[aT]at d;subst d;obtain⟨aI,a2,a3⟩:=l p.2 e;obtain⟨bf,bo⟩:=h _ p k aI;refine⟨br,λj=> ?_⟩;obtain⟨aQ,c2⟩:=zj j bI;rw[b2]at bo;obtain⟨d1,d2⟩:=bo (by simp only;rw[aQ];omega);refine⟨?_,a3.trans d2⟩;show(w p.2).aY=s.aY;rw[a2,d1];simp only
  rw[aQ,c2]
def vT(y:ay)(s:am)(h:(fW T y s).2.an=0):s.an=0/\(fW T y s).2.aY=dY (s.aY-1)/\(fW T y s).2.bl=s.bl:=by
 obtain⟨aI,a2,a3⟩:=dn.kM (T:=T) y (dA s) h;exact⟨aI,a2,a3⟩
structure O4(T:List Tok)(n:Nat):Prop where
 row:∀lev,cA (fl T n lev)
 gW:∀lev e,cA (gW T n lev e)
 unary:cA (i1 T n)
 sign:∀x q,cA (j4 T n x q)
 chain:cA (jL T n)
 fs:∀e,cA (fs T n e)
 single:∀x y,cA (gm T n x y)
 first:cA (ic T n)
 name:cA (k_ T n)
 fresh:cA (kh T n)
 list:cA (jZ T n)
 hg:∀l s x,hg T n l s=some x->x.2.an=0->s.an=0/\(1<=s.aY/\s.aY<=50->x.2.aY=s.aY-1/\x.2.bl=s.bl)
def cA.ite{α:Type}{F d:am->V α}(c:am->Bool)(h:cA F)(k:cA d):cA λs=>bif c s then F s else d s:=λs x a=>by
 cases e:c s with
 |true=>simp only[e,aK]at a;exact h s x a
 |false=>simp only[e,aH]at a;exact k s x a
def cA.bad{α:Type}{v:α}:cA λs=>I (v,bx T 2 s):=λs x c a=>by
 cases c;exact(iQ aC a).elim
def cA.eq{α:Type}{F a:am->V α}(h:cA F)(e:∀s,a s=F s):cA a:=λs x c=>h s x (by rw[<-e];exact c)
def Km(T:List Tok):∀n,O4 T n
 |0=>by
  refine⟨?_,?_,?_,?_,?_,?_,?_,?_,?_,?_,?_,?_⟩
  all_goals intros
  all_goals first|exact cA.none λ_=>rfl|(rename_i h _;cases h)
 |n+1=>by
  have i:=Km T n;refine⟨λlev=> ?_,λlev e=> ?_,?_,λx q=> ?_,?_,λe=> ?_,λx y=> ?_,?_,?_,?_,?_,λl=> ?_⟩
  ·by_cases M:lev=5
   ·exact i.unary.eq λs=>by rw[fl,if_pos M]
   ·exact(cA.bind (i.row (lev+1)) λe=>i.gW lev e).eq λs=>by rw[fl,if_neg M]
  ·intro s x c d;rw[gW]at c;by_cases o:hf T lev s=0
   ·rw[if_pos o]at c;cases c;exact⟨d,λ_=>⟨rfl,rfl⟩⟩
   ·rw[if_neg o]at c;exact cA.pre dn.go (cA.bind (i.row (lev+1)) λb=>i.gW lev (.mk {kind:=hf T lev s,pos:=(G T s.at_).pos} [e,b])) s x c d
  ·exact(cA.ite (λs=>a8 T s 4 [45]) (i.sign [45] 12) (cA.ite (λs=>a8 T s 4 [33]) (i.sign [33] 13) i.chain)).eq λs=>by rw[i1]
  ·exact(cA.within (T:=T) (x:=x) (g:=λs a=> .mk {kind:=q,pos:=(G T s.at_).pos} [a]) (v:=az.zero) (w:=dA) i.unary λs h=>⟨h,rfl,rfl⟩).eq λs=>by rw[j4]
  ·exact(cA.bind i.first λe=>i.fs e).eq λs=>by rw[jL]
  ·intro s x c d;rw[fs]at c;cases N:(s.an==0&&(G T s.at_).kind==4)with
   |false=>simp only[N,aH,aT]at c;subst c;exact⟨d,λ_=>⟨rfl,rfl⟩⟩
   |true=>
    simp only[N,aK]at c;cases O:(G T s.at_).text==[46]with
    |true=>
     simp only[O,aK]at c;obtain⟨aI,a2⟩:=i.fs _ _ x c d;have V:(gu T e s).2.an=0->s.an=0/\(gu T e s).2.aY=s.aY/\(gu T e s).2.bl=s.bl:=by
      unfold gu;cases o:((G T (ao s).at_).kind != 1)with
      |true=>exactλh=>(iQ (T:=T) (s:=ao s) (e:=2) aC h).elim
      |false=>exactλh=>⟨h,rfl,rfl⟩
     obtain⟨bf,bo,b3⟩:=V aI;refine⟨bf,λA=> ?_⟩;obtain⟨aQ,c2⟩:=a2 (by rw[bo];exact A);exact⟨aQ.trans bo,c2.trans b3⟩
    |false=>
     simp only[O,aH]at c;cases P:(G T s.at_).text==[91]with
     |true=>
      simp only[P,aK]at c;exact cA.bind (i.single [91] [93]) (λb=>i.fs (.mk {kind:=6,pos:=(G T s.at_).pos} [e,b])) s x c d
     |false=>simp only[P,aH,aT]at c;subst c;exact⟨d,λ_=>⟨rfl,rfl⟩⟩
  ·exact(cA.within (T:=T) (x:=x) (g:=λ_ a=>a) (v:=az.zero) (w:=λs=>(fW T y s).2) (i.row 0) (vT y)).eq λs=>by rw[gm]
  ·intro s x c d;rw[ic]at c;by_cases C:s.an=0
   ·rw[if_neg (by simp[C])]at c;by_cases R:(G T s.at_).kind=2
    ·rw[if_pos R]at c;cases c;exact⟨d,λ_=>⟨rfl,rfl⟩⟩
    ·rw[if_neg R]at c;by_cases Q:(G T s.at_).kind=1
     ·rw[if_pos Q]at c;exact i.name s x c d
     ·rw[if_neg Q]at c;by_cases S:(G T s.at_).kind=3\/(G T s.at_).kind=4
      ·rw[if_pos S]at c;have ad:cA λs=>I (mC T s):=cA.KR λs h=>⟨h,rfl,rfl⟩
       have aa:cA λs=>I (q2 T s):=cA.KR (dn.comp dn.go (dn.of (T:=T)))
       have ab:cA λs=>I (iW T s):=by
        refine cA.eq (F:=λs=>(λs=>bif (cp T [40] s).1 then(I ((),(cp T [40] s).2)).bind λp=>I ((),(fW T [41] p.2).2)else I ((),(cp T [40] s).2)) (ao s)|>.bind λp=>I (.mk {kind:=11,pos:=(G T s.at_).pos} [],p.2)) ?_ λs=> ?_
        ·intro s y H K;obtain⟨p,k,m⟩:=ew H;cases m;exact cA.pre dn.go (cA.within (T:=T) (x:=[40]) (F:=λs=>I ((),s)) (g:=λ_ _=>()) (v:=()) (w:=λs=>(fW T [41] s).2) (λs z af ah=>by cases af;exact⟨ah,λ_=>⟨rfl,rfl⟩⟩) (vT [41])) s p k K
        ·simp only[iW];cases(cp T [40] (ao s)).1<;>rfl
       have W:cA λs=>(gm T n [40] [41] (ao s)).bind λp=>I (az.mk {kind:=10,pos:=(G T s.at_).pos} [p.1],p.2):=by
        intro s y H K;obtain⟨p,k,m⟩:=ew H;cases m;exact cA.pre dn.go (i.single [40] [41]) s p k K
       exact cA.ite (λs=>(G T s.at_).kind==4) (cA.ite (λs=>(G T s.at_).text==[40]) (i.single [40] [41]) cA.bad)
        (cA.ite (λs=>(G T s.at_).text==[116,114,117,101]||(G T s.at_).text==[102,97,108,115,101]) ad (cA.ite (λs=>(G T s.at_).text==[110,117,108,108]) aa
         (cA.ite (λs=>(G T s.at_).text==[110,101,119]) i.fresh (cA.ite (λs=>(G T s.at_).text==[108,101,110]) W (cA.ite (λs=>(G T s.at_).text==[114,101,97,100]) ab cA.bad))))) s x c d
      ·rw[if_neg S]at c;exact cA.bad s x c d
   ·rw[if_pos (by simpa using C)]at c;cases c;exact absurd d C
  ·intro s x c d;rw[k_]at c;cases j:a8 T (ao s) 4 [40]with
   |true=>
    simp only[j,aK]at c;obtain⟨p,k,m⟩:=ew c;cases m;exact cA.pre dn.go i.list s p k d
   |false=>simp only[j,aH,aT]at c;subst c;exact dn.go s d|>.imp id λh _=>h
  ·intro s x c d;rw[kh]at c;cases j:a8 T (ao s) 4 [91]with
   |true=>
    simp only[j,aK]at c;obtain⟨p,k,m⟩:=ew c;cases m;exact cA.pre (dn.comp (dn.comp (dn.comp dn.go dn.go) (dn.of (T:=T))) (dn.kM (T:=T) [93])) (i.single [40] [41]) s p k d
   |false=>
    simp only[j,aH,aT]at c;subst c;cases o:((G T (ao s).at_).kind != 1)with
    |true=>
     simp only[o,aK]at d;exact(iQ (T:=T) (s:=ao s) (e:=2) aC d).elim
    |false=>simp only[o,aH]at d ⊢;exact⟨d,λ_=>⟨rfl,rfl⟩⟩
  ·intro s x c d;rw[jZ]at c;cases A:(cp T [40] s).1 with
   |false=>simp only[A,aH,aT]at c;subst c;exact absurd d (Ko A)
   |true=>
    obtain⟨br,bI,b2⟩:=Kq A;simp only[A,aK]at c;cases j:a8 T (cp T [40] s).2 4 [41]with
    |true=>
     simp only[j,aK,aT]at c;subst c;obtain⟨aI,a2,a3⟩:=vT [41] _ d;refine⟨br,λB=> ?_⟩;obtain⟨aQ,c2⟩:=zj B bI;rw[b2]at a2 a3;simp only[aQ]at a2 a3;rw[c2]at a2;rw[b2];simp only[aQ];exact⟨a2,a3⟩
    |false=>
     simp only[j,aH]at c;obtain⟨p,k,m⟩:=ew c;obtain⟨aI,a2⟩:=i.hg [p.1] p.2 x m d;obtain⟨bf,bo⟩:=i.row 0 _ p k aI;refine⟨br,λB=> ?_⟩;obtain⟨aQ,c2⟩:=zj B bI;rw[b2]at bo;simp only[aQ]at bo;obtain⟨d1,d2⟩:=bo ae;obtain⟨ap,aE⟩:=a2 (by rw[d1];omega);exact⟨by rw[ap,d1];omega,aE.trans d2⟩
  ·intro s x c d;rw[hg]at c;cases aq:(cK T 4 [44] s).1 with
   |false=>
    simp only[aq,aH,aT]at c;subst c;have E:(cK T 4 [44] s).2=s:=by
     unfold cK at aq ⊢;cases j:a8 T s 4 [44]with
     |true=>rw[j]at aq;cases aq
     |false=>rfl
    simp only[E]at d ⊢;obtain⟨aI,a2,a3⟩:=vT [41] s d;exact⟨aI,λh=>⟨by rw[a2];exact wrap_i64 ae ae,a3⟩⟩
   |true=>
    simp only[aq,aK]at c;obtain⟨p,k,m⟩:=ew c;have E:(cK T 4 [44] s).2=ao s:=by
     unfold cK at aq ⊢;cases j:a8 T s 4 [44]with
     |true=>rfl
     |false=>rw[j]at aq;cases aq
    rw[E]at k;obtain⟨aI,a2⟩:=i.hg _ p.2 x m d;obtain⟨bf,bo⟩:=i.row 0 _ p k aI;refine⟨bf,λh=> ?_⟩;obtain⟨d1,d2⟩:=bo (by show(0:Int)<=s.aY;omega);have L:p.2.aY=s.aY:=d1;obtain⟨ap,aE⟩:=a2 (by rw[L];exact h);exact⟨by rw[ap,L],aE.trans d2⟩
end
def fa(l:List a6)(s:am):List a6×Int×Int×Int:=if s.an=0 then(l,s.at_,0,0)else([],0,s.an,s.bl)
def hM(T:List Tok)(s x y:am):Prop:=dT x y/\(x.an=0->x.aY=s.aY/\x.bl=s.bl/\left T x<=left T s)
def gp{α:Type}(T:List Tok)(s:am)(x y:α×am):Prop:=cE x y/\(x.2.an=0->x.2.aY=s.aY/\x.2.bl=s.bl/\left T x.2<=left T s)
def cE.eq{α:Type}{p q:α×am}(h:cE p q)(a:p.2.an=0):q=p:=by
 rcases h with h|h
 ·exact h.2
 ·exact absurd a h.1
def cE.hq{α:Type}{p q:α×am}(h:cE p q):dT p.2 q.2:=by
 rcases h with⟨h,rfl⟩|⟨a,c,d⟩
 ·exact .inl ⟨h,rfl⟩
 ·exact .inr ⟨a,c,d⟩
def cE.hF{α:Type}{p q:α×am}(h:dT p.2 q.2)(i:p.2.an=0->q.1=p.1):cE p q:=by
 rcases h with⟨h,e⟩|⟨a,c,d⟩
 ·exact .inl ⟨h,Prod.ext (i h) e⟩
 ·exact .inr ⟨a,c,d⟩
def gp.st{α:Type}{T:List Tok}{s:am}{x y:α×am}(h:gp T s x y):hM T s x.2 y.2:=⟨h.1.hq,h.2⟩
def dT.eq{x y:am}(h:dT x y)(a:x.an=0):y=x:=by
 rcases h with h|h
 ·exact h.2
 ·exact absurd a h.1
def dT.ne{x y:am}(h:dT x y)(a:x.an≠0):y.an≠0:=by
 rcases h with h|h
 ·exact absurd h.1 a
 ·rw[h.2.1];exact a
section
variable {T:List Tok}(ar:T.length<=20000000)
include ar
theorem ve{s x y:am}(h:hM T s x y){z:ay}(c:kw z=4):hM T s (bD T z x).2 (bg T z y):=by
 refine⟨sF h.1 c,λa=> ?_⟩;obtain⟨aI,a2,a3⟩:=dn.kM z x a;obtain⟨bf,bo,b3⟩:=h.2 aI;exact⟨a2.trans bf,a3.trans bo,wx (qV ae x z) b3⟩
theorem abV{x:am}{z:ay}(c:(bD T z x).2.an=0):left T (bD T z x).2+1<=left T x:=by
 cases a:a8 T x 4 z with
 |true=>
  have:(bD T z x).2=ao x:=by simp[bD,a]
  rw[this];exact jU ae aC a
 |false=>
  have:(bD T z x).2=bx T 2 x:=by simp[bD,a]
  rw[this]at c;exact(iQ aC c).elim
theorem mV{α:Type}{s x y:am}(h:hM T s x y){v d:α}(e:x.an=0->d=v):gp T s (v,(bD T [59] x).2) (d,bg T [59] y)/\((bD T [59] x).2.an=0->left T (bD T [59] x).2+1<=left T s):=by
 have c:=ve ar h (z:=[59]) aC;refine⟨⟨cE.hF c.1 λa=>e (dn.kM [59] x a).1,c.2⟩,λa=> ?_⟩;have:=abV ar a;have:=(h.2 (dn.kM [59] x a).1).2.2;omega
omit ar in
theorem Na{x:am}(a:x.an=0)(c:x.bl=0)(d:0<=x.aY):g1 x.at_ x.aY=x:=by
 cases x;simp only at a c d;subst a c;simp only[g1];rw[if_neg ae]
theorem ol{s x y:am}(h:hM T s x y)(A:s.bl=0)(m:0<=s.aY):gp T s (cv T x) (bM T y):=by
 by_cases a:x.an=0
 ·obtain rfl:=h.1.eq a;obtain⟨bf,bo,b3⟩:=h.2 a;obtain⟨p,q,j,n,d,o⟩:=wz (T:=T) ae T.length y (tf _ _) 0 800000000 800000000 ae ae ae;have l:bM T y=q:=by simp only[bM,n]
  rw[l];have au:=Na a (bo.trans A) (by rw[bf];exact m);by_cases c:p.2.an=0
  ·obtain⟨-,e⟩:=(Km T 800000000).row 0 y p j c;obtain⟨ap,aE⟩:=e (by rw[bf];exact m);have k:cv T y=p:=by
    unfold cv;rw[if_neg (by simp[a]),au,j];simp only[c,if_true];refine Prod.ext rfl ?_;rw[show p.2=⟨p.2.at_,p.2.aY,p.2.an,p.2.bl⟩from rfl,ap,aE,c,<-a]
   rw[k];exact⟨d,λ_=>⟨ap.trans bf,aE.trans bo,wx o b3⟩⟩
  ·have k:cv T y=(.zero,{y with an:=p.2.an,bl:=p.2.bl}):=by
    unfold cv;rw[if_neg (by simp[a]),au,j];simp only[c,if_false]
   rw[k];rcases d with d|⟨v,w,z⟩
   ·exact absurd d.1 c
   ·exact⟨.inr ⟨v,w,z⟩,λh=>absurd h c⟩
 ·have B:=h.1.ne a;have c:cv T x=(.zero,x):=by simp[cv,a]
  have l:bM T y=(mZ T y,y):=by simp only[bM,qE B 800000000 0 ae ae]
  rw[c,l];refine⟨cE.hF h.1 λi=>absurd i a,λi=>absurd i a⟩
omit ar in
theorem OA(x:ay)(o:Int):∀(n:Nat) (s:am),is T x n {s with aY:=o}={is T x n s with aY:=o}
 |0,s=>rfl
 |n+1,s=>by
  have:(bD T x {s with aY:=o}).2={(bD T x s).2 with aY:=o}:=by
   have a:a8 T {s with aY:=o} 4 x=a8 T s 4 x:=rfl;simp only[bD,a];cases a8 T s 4 x with
   |true=>rfl
   |false=>
    simp only[aH,bx];split<;>rfl
  simp only[YtghmbpmaafnodaaGreatDoor.is,this];exact OA x o n _
omit ar in
theorem KU(o:Int):∀(n:Nat) (d:Int) (s:am),fz T n d {s with aY:=o}=match fz T n d s with
  | .inl p=> .inl (p.1,{p.2 with aY:=o})
  | .inr s'=> .inr {s' with aY:=o}
 |0,d,s=>by
  have a:a8 T {s with aY:=o} 4 [91]=a8 T s 4 [91]:=rfl;simp only[fz,a];cases a8 T s 4 [91]with
  |true=>simp only[aK,bx];split<;>rfl
  |false=>rfl
 |n+1,d,s=>by
  have a:a8 T {s with aY:=o} 4 [91]=a8 T s 4 [91]:=rfl;simp only[fz,a];cases a8 T s 4 [91]with
  |true=>exact KU o n (d+1) (ao s)
  |false=>rfl
omit ar in
theorem TZ(o:Int)(s:am):cq T {s with aY:=o}=((cq T s).1,{(cq T s).2 with aY:=o}):=by
 unfold cq;rw[KU];cases fz T 3 0 s with
 |inr s'=>rfl
 |inl p=>
  have a:∀x,a8 T {p.2 with aY:=o} 3 x=a8 T p.2 3 x:=λ_=>rfl
  simp only[fy,a];cases((G T p.2.at_).kind != 1&&(!a8 T p.2 3 [105,110,116]&& !a8 T p.2 3 [98,111,111,108]))with
  |true=>simp only[aK,bx];split<;>rfl
  |false=>
   simp only[aH];exact Prod.ext rfl (OA [93] o p.1.toNat (ao p.2))
omit ar in
theorem ty{y:am}(h:y.an≠0):cz T y=(([],0),y):=by
 simp only[cz,eZ,ed h,aH,fj,JK,vU h];rfl
theorem vd{s x:am}(c:x.an=0)(h:x.aY=s.aY/\x.bl=s.bl/\left T x<=left T s)(d:s.bl=0):gp T s (hj T x) (cz T x):=by
 obtain⟨bf,bo,b3⟩:=h;have n:x={(⟨x.at_,0,0,0⟩:am)with aY:=x.aY}:=by
  cases x;simp only at c bo ⊢;rw[c,bo,d]
 have i:=TZ (T:=T) x.aY ⟨x.at_,0,0,0⟩;rw[<-n]at i;have au:=of_same T x;rw[i]at au;unfold hj;by_cases a:(cq T ⟨x.at_,0,0,0⟩).2.an=0
 ·obtain⟨-,aQ,c2⟩:=dn.of (T:=T) ⟨x.at_,0,0,0⟩ a;rw[if_pos a];have e:({x with at_:=(cq T ⟨x.at_,0,0,0⟩).2.at_}:am)={(cq T ⟨x.at_,0,0,0⟩).2 with aY:=x.aY}:=by
   have j:(cq T ⟨x.at_,0,0,0⟩).2.bl=0:=c2;show _=(⟨(cq T ⟨x.at_,0,0,0⟩).2.at_,x.aY,(cq T ⟨x.at_,0,0,0⟩).2.an,(cq T ⟨x.at_,0,0,0⟩).2.bl⟩:am);rw[c,a,j,bo,d]
  rw[e];have ak:=Bf (T:=T) ae ⟨x.at_,0,0,0⟩;refine⟨au,λ_=>⟨bf,?_,?_⟩⟩
  ·show(cq T ⟨x.at_,0,0,0⟩).2.bl=s.bl;rw[d];exact c2
  ·refine wx (wx ak ?_) b3;unfold left;simp[c]
 ·rw[if_neg a];rcases au with au|⟨k,l,m⟩
  ·exact absurd au.1 a
  ·exact⟨.inr ⟨k,l,m⟩,λh=>absurd h a⟩
theorem zR{s x:am}(m:x.an=0)(h:x.aY=s.aY/\x.bl=s.bl/\left T x<=left T s)(n:s.bl=0):gp T s (fJ T x) (cT T x):=by
 have o:(x.an==0)=true:=by simp[m]
 have l:hM T s (ao (bif (G T x.at_).kind != 1 then bx T 2 x else x)) (bv T x).2/\((ao (bif (G T x.at_).kind != 1 then bx T 2 x else x)).an=0->(bv T x).1=(G T x.at_).text):=by
  by_cases d:(G T x.at_).kind=1
  ·have i:((G T x.at_).kind != 1)=false:=by simp[d]
   have j:((G T x.at_).kind==1)=true:=by simp[d]
   simp only[i,aH,bv,o,j,yz,aK];have ak:=jT (T:=T) ae m (by rw[d];decide);exact⟨⟨dT.refl _,λ_=>⟨h.1,h.2.1,ae⟩⟩,λ_=>trivial⟩
  ·have i:((G T x.at_).kind != 1)=true:=by simpa using d
   have j:((G T x.at_).kind==1)=false:=by simpa using d
   simp only[i,aK,bv,j,lm,aH];have a:(bx T 2 x).an≠0:=λc=>iQ aC c
   exact⟨⟨.inr ⟨a,rfl,rfl⟩,λc=>absurd c a⟩,λc=>absurd c a⟩
 have e:hM T s (colonS T x) (bg T [58] (bv T x).2):=ve ar l.1 (z:=[58]) aC;unfold fJ cT;by_cases a:(colonS T x).an=0
 ·rw[if_neg (by simp[a])];have p:=l.2 (dn.kM [58] _ a).1;rw[e.1.eq a,p];have k:=vd ar a (e.2 a) n;exact⟨cE.hF k.1.hq λc=>by rw[k.1.eq c],k.2⟩
 ·rw[if_pos a];have q:=e.1.ne a;rw[ty q];exact⟨cE.hF e.1 λc=>absurd c a,λc=>absurd c a⟩
def oh{α:Type}(T:List Tok)(s:am)(p:α×am):Prop:=p.2.an=0->left T p.2+1<=left T s
theorem Pq{s x:am}(d:x.an=0)(h:x.aY=s.aY/\x.bl=s.bl/\left T x<=left T s)(c:s.bl=0):gp T s (qy T x) (ji T x):=by
 have aq:=zR ar d h c;exact(mV ar aq.st λa=>by rw[aq.1.eq a]).1
theorem Pr{s x:am}(k:x.an=0)(h:x.aY=s.aY/\x.bl=s.bl/\left T x<=left T s)(d:s.bl=0)(l:0<=s.aY):gp T s (qW T x) (ju T x):=by
 have aq:=zR ar k h d;have e:=ol ar (ve ar aq.st (z:=[61]) aC) d l;refine(mV ar e.st λa=> ?_).1;have i:(bD T [61] (fJ T x).2).2.an=0:=by
  by_cases c:(bD T [61] (fJ T x).2).2.an=0
  ·exact c
  ·rw[show cv T (bD T [61] (fJ T x).2).2=(.zero,(bD T [61] (fJ T x).2).2) by simp[cv,c]]at a;exact absurd a c
 have j:=(dn.kM [61] _ i).1;rw[e.1.eq a,aq.1.eq j]
theorem Pu{s x:am}(h:hM T s x x)(d:s.bl=0)(e:0<=s.aY):gp T s (ri T x) (ku T x):=by
 have a:=ol ar h d e;exact(mV ar a.st λc=>by rw[a.1.eq c]).1
omit ar in
theorem m8(s:am)(x:ay)(h:kw x=4):aS T s x=a8 T s 4 x:=by rw[aS,h]
theorem Pv{s x:am}(h:hM T s x x)(d:s.bl=0)(e:0<=s.aY):gp T s (nn T x) (iX T x):=by
 unfold nn iX;rw[m8 x [59] aC];cases a8 T x 4 [59]with
 |true=>exact(mV ar h λ_=>rfl).1
 |false=>
  have a:=ol ar h d e;exact(mV ar a.st λc=>by rw[a.1.eq c]).1
theorem Pw{s x:am}(h:hM T s x x)(e:az)(d:s.bl=0)(j:0<=s.aY):gp T s (n5 T e x) (lA T e x)/\oh T s (n5 T e x):=by
 have i:hM T s (bif eS e then bx T 2 x else x) (bif eS e then bx T 2 x else x):=by
  cases eS e with
  |false=>exact h
  |true=>exact⟨dT.refl _,λa=>(iQ (T:=T) (s:=x) (e:=2) aC a).elim⟩
 have c:=ol ar (ve ar i (z:=[61]) aC) d j;exact mV ar c.st λa=>by rw[show bM T (gI T e x)=cv T (jn T e x)from c.1.eq a]
theorem Pt{s x:am}(h:hM T s x x)(i:s.bl=0)(j:0<=s.aY):gp T s (jA T x) (fP T x)/\oh T s (jA T x):=by
 have a:=ol ar h i j;unfold jA fP;rw[m8 _ [61] aC,m8 _ [59] aC];by_cases c:(cv T x).2.an=0
 ·rw[a.1.eq c];have k:hM T s (cv T x).2 (cv T x).2:=⟨dT.refl _,a.2⟩;cases a8 T (cv T x).2 4 [61]with
  |true=>exact Pw ar k _ i j
  |false=>
   refine mV ar ?_ λ_=>rfl
   cases(a8 T (cv T x).2 4 [59]&&(cv T x).1.kind != 7)with
   |false=>exact k
   |true=>exact⟨dT.refl _,λd=>(iQ (T:=T) (s:=(cv T x).2) (e:=2) aC d).elim⟩
 ·have l:=a.1.hq.ne c;simp only[hd c,hd l,aH,uv];exact mV ar a.st λd=>absurd d c
end
section
set_option linter.unusedSectionVars false
def u7(T:List Tok)(k:Nat):Prop:=∀s:am,s.an=0->s.bl=0->0<=s.aY->left T s<=k->∀n a,10*k+10<=n->10*k+10<=a->∃p q,n6 T n s=I p/\gC T a s=I q/\gp T s p q/\oh T s p
def zr(T:List Tok)(k:Nat):Prop:=∀s x y:am,hM T s x y->s.bl=0->0<=s.aY->left T x<=k->∀n a,10*k+5<=n->10*k+5<=a->∃p q,iz T n x=I p/\dU T a y=I q/\gp T s p q/\oh T x p
section
variable {T:List Tok}(ar:T.length<=20000000)
def zh{x:am}(h:x.an≠0)(n:Nat)(l:List a6):i6 T (n+1) l x=I (l,x):=by
 have a:(x.an==0)=false:=by simpa using h
 simp[i6,a]
def tn{x:am}(h:x.an≠0)(n:Nat)(l:List a6):fx T (n+1) l x=I (l,x):=by
 have a:(x.an==0)=false:=by simpa using h
 simp[fx,a]
include ar
theorem Ps{K:Nat}(G:∀j,j<=K->u7 T j):∀(c:Nat),c<=K->∀(s x y:am),hM T s x y->s.bl=0->0<=s.aY->left T x<=c->∀n e,10*c+12<=n->10*c+12<=e->∀l l',(x.an=0->l'=l)->
  ∃p q,i6 T n l x=I p/\fx T e l' y=I q/\gp T s p q:=by
 intro c
 induction c with
 |zero=>
  intro F s x y h v w ak n e M N l l' E;obtain⟨n,rfl⟩:∃m,n=m+2:=⟨n-2,ae⟩;obtain⟨e,rfl⟩:∃m,e=m+2:=⟨e-2,ae⟩;by_cases a:x.an=0
  ·obtain rfl:=h.1.eq a;rw[E a];obtain⟨bf,bo,b3⟩:=h.2 a;have C:(y.an==0)=true:=by simp[a]
   simp only[i6,fx,C,m8 y [125] aC,zA];cases a8 T y 4 [125]with
   |true=>exact⟨_,_,rfl,rfl,.inl ⟨a,rfl⟩,h.2⟩
   |false=>
    simp only[mn,aK];obtain⟨p,q,z,A,k,B⟩:=G 0 ae y a (bo.trans v) (by rw[bf];exact w) ak (n+1) (e+1) ae ae;rw[z,A];simp only[gh];have i:p.2.an≠0:=λd=>by have:=B d;omega
    have o:=k.1.hq.ne i;have H:=zh (T:=T) i n (l++[p.1]);have L:=tn (T:=T) o e (l++[q.1]);simp only[i6]at H;simp only[fx]at L;rw[H,L];exact⟨_,_,rfl,rfl,cE.hF k.1.hq λd=>absurd d i,λd=>absurd d i⟩
  ·exact⟨_,_,zh a _ _,tn (h.1.ne a) _ _,cE.hF h.1 λd=>absurd d a,λd=>absurd d a⟩
 |succ c O=>
  intro F s x y h v w ak n e M N l l' E;obtain⟨n,rfl⟩:∃m,n=m+2:=⟨n-2,ae⟩;obtain⟨e,rfl⟩:∃m,e=m+2:=⟨e-2,ae⟩;by_cases a:x.an=0
  ·obtain rfl:=h.1.eq a;rw[E a];obtain⟨bf,bo,b3⟩:=h.2 a;have C:(y.an==0)=true:=by simp[a]
   rw[i6,fx];simp only[C,m8 y [125] aC,zA];cases a8 T y 4 [125]with
   |true=>exact⟨_,_,rfl,rfl,.inl ⟨a,rfl⟩,h.2⟩
   |false=>
    simp only[mn,aK];obtain⟨p,q,z,A,k,B⟩:=G (c+1) F y a (bo.trans v) (by rw[bf];exact w) ak (n+1) (e+1) ae ae;rw[z,A];simp only[gh];by_cases i:p.2.an=0
    ·have o:=k.1.eq i;have P:=B i;obtain⟨d1,d2,d3⟩:=k.2 i;rw[o];exact O ae s p.2 p.2 ⟨dT.refl _,λ_=>⟨d1.trans bf,d2.trans bo,wx d3 b3⟩⟩ v w ae (n+1) (e+1) ae ae _ _ λ_=>rfl
    ·have o:=k.1.hq.ne i;exact⟨_,_,zh i _ _,tn o _ _,cE.hF k.1.hq λd=>absurd d i,λd=>absurd d i⟩
  ·exact⟨_,_,zh a _ _,tn (h.1.ne a) _ _,cE.hF h.1 λd=>absurd d a,λd=>absurd d a⟩
theorem zQ{s x y:am}{e:Int}(o:e≠0)(c:Nat)(h:dT (bx T e x) (cl T [123] y))(v:2<=c):
  ∃p q,I (([]:List a6),bx T e x)=I p/\dU T c y=I q/\gp T s p q/\oh T x p:=by
 obtain⟨c,rfl⟩:∃m,c=m+2:=⟨c-2,ae⟩;have d:(bx T e x).an≠0:=λa=>iQ o a
 have i:=h.ne d;rw[dU,tn i,gh];have n:cV T [125] (cl T [123] y)=dA (cl T [123] y):=by
  simp only[cV,bg,ed i,aH,e9 i]
 refine⟨_,_,rfl,rfl,⟨?_,λa=>absurd a d⟩,λa=>absurd a d⟩;simp only[n];rcases h with h|⟨j,k,l⟩
 ·exact absurd h.1 d
 ·exact .inr ⟨j,k,l⟩
theorem Eh{k:Nat}(O:∀j,j<k->u7 T j):zr T k:=by
 intro s x y h F M ak n c S V;obtain⟨n,rfl⟩:∃m,n=m+1:=⟨n-1,ae⟩;rw[iz];by_cases d:x.an=0
 ·obtain rfl:=h.1.eq d;obtain⟨bf,bo,b3⟩:=h.2 d;cases e:a8 T y 4 [123]with
  |false=>
   refine zQ ar aC c ?_ ae;have:cl T [123] y=e4 (bx T 2 y):=by simp[cl,bg,m8 y [123] aC,e]
   rw[this];exact .inr ⟨λa=>iQ aC a,rfl,rfl⟩
  |true=>
   simp only[aK];by_cases l:50<=y.aY
   ·rw[if_pos l];refine zQ ar aC c ?_ ae;have:cl T [123] y=bx T 4 y:=by simp[cl,m8 y [123] aC,e,l]
    rw[this];exact .refl _
   ·rw[if_neg l];have N:cl T [123] y={y with at_:=dY (y.at_+1),aY:=dY (y.aY+1)}:=by
     simp only[cl,bg,m8 y [123] aC,e,l,decide_false,lm,aH,aK];rfl
    have Q:1<=k:=by
     have:=jU (T:=T) ae (s:=y) aC e;omega
    have L:=jU (T:=T) ae (s:=y) aC e;obtain⟨c,rfl⟩:∃m,c=m+1:=⟨c-1,ae⟩;rw[dU,N];obtain⟨aQ,c2⟩:=zj (o:=y.aY) (by rw[bf];exact M) ae;have R:left T {y with at_:=dY (y.at_+1),aY:=dY (y.aY+1)}+1<=left T y:=L;obtain⟨p,q,v,E,i⟩:=Ps ar (K:=k-1) (λj P=>O j ae) (k-1) (aV _) {y with at_:=dY (y.at_+1),aY:=dY (y.aY+1)} _ _ ⟨dT.refl _,λ_=>⟨rfl,rfl,aV _⟩⟩ (bo.trans F) (by show(0:Int)<=dY (y.aY+1);rw[aQ,bf];omega) ae n c ae ae [] [] λ_=>rfl
    rw[v,E];simp only[gh];have G:=lO (T:=T) i.1.hq (x:=[125]) aC;have H:dT (bD T [125] (dA p.2)).2 (cV T [125] q.2):=G;refine⟨_,_,rfl,rfl,⟨cE.hF H λa=> ?_,λa=> ?_⟩,λa=> ?_⟩
    ·have:=(dn.kM [125] _ a).1;rw[i.1.eq this]
    ·obtain⟨d1,d2,d3⟩:=dn.kM [125] _ a;obtain⟨ap,aE,bB⟩:=i.2 d1;refine⟨?_,d3.trans (aE.trans bo),?_⟩
     ·rw[d2];show dY (p.2.aY-1)=s.aY;rw[ap];show dY (dY (y.aY+1)-1)=s.aY;rw[aQ,c2,bf]
     ·have w:=qV (T:=T) ae (dA p.2) [125];rw[Bg]at w;have au:left T (bD T [125] (dA p.2)).2<=left T s:=ae;exact au
    ·obtain⟨d1,d2,d3⟩:=dn.kM [125] _ a;obtain⟨ap,aE,bB⟩:=i.2 d1;have w:=qV (T:=T) ae (dA p.2) [125];rw[Bg]at w;have au:left T (bD T [125] (dA p.2)).2+1<=left T y:=ae;exact au
 ·rw[hd d,aH];refine zQ ar aC c ?_ ae;have z:=h.1.ne d;have:cl T [123] y=e4 y:=by simp[cl,bg,ed z,e9 z]
  rw[this,e9 d];rcases h.1 with v|⟨A,B,C⟩
  ·exact absurd v.1 d
  ·exact .inr ⟨A,B,C⟩
omit ar in
theorem oI{s:am}(a:s.an=0){x:ay}(c:kw x=3):aS T s x=((G T s.at_).kind==3&&(G T s.at_).text==x):=by
 simp[aS,c,a8,a]
theorem Eg{s:am}{p q:a6×am}(pos:Int)(h:gp T s p q):gp T s (p.1.at pos,p.2) (q.1.at pos,q.2):=⟨cE.hF h.1.hq λa=>by rw[h.1.eq a],h.2⟩
theorem Px{k:Nat}(K:∀j,j<k->zr T j):u7 T k:=by
 intro s d c l ak n v ai aj;obtain⟨n,rfl⟩:∃m,n=m+2:=⟨n-2,ae⟩;obtain⟨v,rfl⟩:∃m,v=m+2:=⟨v-2,ae⟩;have self:hM T s s s:=⟨dT.refl _,λ_=>⟨rfl,rfl,aV _⟩⟩;rw[n6,gC];simp only[oI d (x:=[118,97,114]) aC,oI d (x:=[108,101,116]) aC,oI d (x:=[105,102]) aC,oI d (x:=[119,104,105,108,101]) aC,oI d (x:=[114,101,116,117,114,110]) aC,oI d (x:=[112,114,105,110,116]) aC];have plain:∃p q,(I (jA T s)).bind (λp=>I (p.1.at (G T s.at_).pos,p.2))=I p/\(I (fP T s)).bind (λp=>I (p.1.at (G T s.at_).pos,p.2))=I q/\gp T s p q/\oh T s p:=by
  obtain⟨y,z⟩:=Pt ar self c l;exact⟨_,_,rfl,rfl,Eg ar _ y,z⟩
 cases aa:(G T s.at_).kind==3 with
 |false=>
  simp only[aH,uv,JK];exact plain
 |true=>
  simp only[aK,zA];have ab:(G T s.at_).kind=3:=by simpa using aa
  have af:=jT (T:=T) ae d (by rw[ab];decide);have w:hM T (ao s) (ao s) (ao s):=⟨dT.refl _,λ_=>⟨rfl,rfl,aV _⟩⟩;have up:∀{p q:a6×am},gp T (ao s) p q->∃L P,(I p).bind (λp=>I (p.1.at (G T s.at_).pos,p.2))=I L/\(I q).bind (λp=>I (p.1.at (G T s.at_).pos,p.2))=I P/\gp T s L P/\oh T s L:=λ{p q} h=>by
   refine⟨_,_,rfl,rfl,Eg ar _ ⟨h.1,λa=> ?_⟩,λa=> ?_⟩
   ·obtain⟨ap,aE,bB⟩:=h.2 a;exact⟨ap,aE,ae⟩
   ·obtain⟨ap,aE,bB⟩:=h.2 a;show left T p.2+1<=left T s;omega
  have M:=w.2 d;cases t1:(G T s.at_).text==[118,97,114]with
  |true=>
   have t2:((G T s.at_).text==[108,101,116])=false:=by
    have:(G T s.at_).text=[118,97,114]:=by simpa using t1
    rw[this];rfl
   simp only[aK,Bool.true_or,t2,aH];exact up (Pq ar d M c)
  |false=>
   simp only[aH,Bool.false_or];cases t2:(G T s.at_).text==[108,101,116]with
   |true=>
    simp only[aK];exact up (Pr ar d M c l)
   |false=>
    simp only[aH];cases t3:(G T s.at_).text==[105,102]with
    |true=>
     simp only[aK];have o:=ol ar w c l;rw[mY];have E:left T (cv T (ao s)).2<=k-1:=by
      by_cases a:(cv T (ao s)).2.an=0
      ·have:=(o.2 a).2.2;omega
      ·rw[jS a];omega
     obtain⟨p,q,y,z,i,B⟩:=K (k-1) ae (ao s) _ _ o.st c l E n (v+1) ae ae;rw[y,z];simp only[gh];by_cases e:p.2.an=0
     ·have F:=i.1.eq e;have H:=B e;have C:(cv T (ao s)).2.an=0:=by
       by_cases a:(cv T (ao s)).2.an=0
       ·exact a
       ·rw[jS a]at H;omega
      rw[F,o.1.eq C,oI e (x:=[101,108,115,101]) aC];have V:a8 T p.2 3 [101,108,115,101]=((G T p.2.at_).kind==3&&(G T p.2.at_).text==[101,108,115,101]):=by simp[a8,e]
      rw[<-V];cases W:a8 T p.2 3 [101,108,115,101]with
      |false=>
       simp only[aH];exact up ⟨.inl ⟨e,rfl⟩,i.2⟩
      |true=>
       simp only[aK];have ah:=jU (T:=T) ae (s:=p.2) aC W;obtain⟨f1,f2,f3⟩:=i.2 e;obtain⟨O,Q,R,S,A,ad⟩:=K (k-1) ae (ao s) (ao p.2) (ao p.2) ⟨dT.refl _,λ_=>⟨f1,f2,ae⟩⟩ c l ae n (v+1) ae ae;rw[R,S];simp only[gh];refine up (p:=(a6.mk {kind:=5} [(cv T (ao s)).1] p.1 O.1,O.2)) (q:=(a6.mk {kind:=5} [(cv T (ao s)).1] p.1 Q.1,Q.2)) ?_;exact⟨cE.hF A.1.hq λa=>by simp only[A.1.eq a],A.2⟩
     ·have F:=i.1.hq.ne e;rw[hd e,ed F];simp only[aH];exact up ⟨cE.hF i.1.hq λa=>absurd a e,λa=>absurd a e⟩
    |false=>
     simp only[aH];cases t4:(G T s.at_).text==[119,104,105,108,101]with
     |true=>
      simp only[aK];have o:=ol ar w c l;rw[nk];have E:left T (cv T (ao s)).2<=k-1:=by
       by_cases a:(cv T (ao s)).2.an=0
       ·have:=(o.2 a).2.2;omega
       ·rw[jS a];omega
      obtain⟨p,q,y,z,i,B⟩:=K (k-1) ae (ao s) _ _ o.st c l E n (v+1) ae ae;rw[y,z];simp only[gh];refine up (p:=(a6.mk {kind:=6} [(cv T (ao s)).1] p.1 [],p.2)) (q:=(a6.mk {kind:=6} [(bM T (ao s)).1] q.1 [],q.2)) ?_;refine⟨cE.hF i.1.hq λa=> ?_,i.2⟩;have H:=B a;have C:(cv T (ao s)).2.an=0:=by
       by_cases N:(cv T (ao s)).2.an=0
       ·exact N
       ·rw[jS N]at H;omega
      simp only[i.1.eq a,o.1.eq C]
     |false=>
      simp only[aH];cases t5:(G T s.at_).text==[114,101,116,117,114,110]with
      |true=>
       simp only[aK];exact up (Pv ar w c l)
      |false=>
       simp only[aH];cases t6:(G T s.at_).text==[112,114,105,110,116]with
       |true=>
        simp only[aK];exact up (Pu ar w c l)
       |false=>
        simp only[aH];exact plain
theorem abg:∀k,u7 T k:=by
 intro k
 induction k using Nat.strongRecOn with
 |_ k a=>exact Px ar λj d=>Eh ar λi c=>a i ae
theorem Qn(k:Nat):zr T k:=Eh ar λj _=>abg ar j
theorem FK(at_ aY:Int):∃p q,iz T 800000000 (g1 at_ aY)=I p/\dU T 800000000 (g1 at_ aY)=I q/\fa q.1 q.2=fa p.1 p.2/\gp T (g1 at_ aY) p q:=by
 have j:(0:Int)<=(g1 at_ aY).aY:=by
  show(0:Int)<=if aY<0 then 0 else aY
  split<;>omega
 obtain⟨p,q,d,e,a,-⟩:=Qn ar T.length (g1 at_ aY) _ _ ⟨dT.refl _,λ_=>⟨rfl,rfl,aV _⟩⟩ rfl j (tf _ _) 800000000 800000000 ae ae;refine⟨p,q,d,e,?_,a⟩;rcases a.1 with⟨h,rfl⟩|⟨h,c,i⟩
 ·rfl
 ·have aU:¬q.2.an=0:=by rw[c];exact h
  simp only[fa,if_neg h,c,i]
