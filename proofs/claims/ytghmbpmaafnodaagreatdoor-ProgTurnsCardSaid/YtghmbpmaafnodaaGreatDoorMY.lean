/- Part. -/
import Derived.Test.YtghmbpmaafnodaaGreatDoorMW
set_option linter.defProp false
open Option renaming some→I,none→u,map→xy
open Bool renaming true→Y,false→X,false_and→lm,not_true→pq,not_false→rs,and_false→wx,true_and→FG,and_self→LM,or_true→OP
open Go.bk.aa renaming int→J,str→Z,bool→D
open Go.IntKind renaming i64→U
open List renaming getElem?_eq_getElem→cd,length_append→de,append_nil→ef,drop_eq_getElem_cons→fg,length_cons→gh,length_eq_zero_iff→hi,length_nil→ij,drop_eq_nil_of_le→jk,getElem_mem→kl,mem_cons_of_mem→tu,cons_append→uv,nil_append→yz,map_cons→zA,append_assoc→AB,map_nil→BC,drop_zero→CD,take_of_length_le→DE,length_singleton→EF,mem_singleton→GH,mem_append→IJ,getElem?_eq_none→JK,all_cons→KL,all_nil→NO
open Nat renaming reduceAdd→mn,reduceLeDiff→vw,blt→HI,blt_eq→MN
namespace Go.Proofs.YtghmbpmaafnodaaGreatDoor
open Go.bk
section
set_option maxRecDepth 100000
noncomputable section
def pb(G:e)(N:Nat)(H:ad):O:=some ((D Y),H)
def XZ(G:e)(N:Nat):∀V H,a7 P G N (L (L (L (L (n Tryz.f10))))) (p Tryz.f10) [] (p Tryz.f10) V H=pb G N H:=by
 refine bm (q _) λV H=> ?_
 delta pb;kernel_rfl
def ry(G:e)(N:Nat)(aj:aa->aa->aa->ad->O)(M ai aJ:aa)(H:ad):O:=C (j P 26 M 2) λaT=>C (A P H 24 aT) λaU=>bU P .len [24] [aU] H λaV=>C (w P .lss 3 X aJ aV) λaW=>aO (I aW) (C (j P 26 M 2) λy=>C (A P H 24 y) λz=>C (bX P 24 z aJ) λB=>C (A P H 46 B) λE=>bn H [Z [],aa.ag,D X,Z [],J U 0,aa.ag,J U 0] λl o=>bn o [Z [],aa.ag,D X,Z [],J U 0,aa.ag,J U 0] λm d=>aG d (aB P d 46 l E) λh=>C (j P 26 ai 2) λp=>C (A P h 24 p) λs=>C (bX P 24 s aJ) λv=>C (A P h 46 v) λx=>aG h (aB P h 46 m x) λK=>bif ((aZ (A P H 24 y) z&&(aZ (A P o 24 y) z&&(aZ (A P d 24 y) z&&Y)))&&((aZ (A P H 46 B) E&&(aZ (A P o 46 B) E&&(aZ (A P d 46 B) E&&Y)))&&((aZ (A P H 24 p) s&&(aZ (A P o 24 p) s&&(aZ (A P d 24 p) s&&(aZ (A P h 24 p) s&&Y))))&&((aZ (A P H 46 v) x&&(aZ (A P o 46 v) x&&(aZ (A P d 46 v) x&&(aZ (A P h 46 v) x&&Y))))&&Y))))then(C (j P 46 l 0) λaY=>C (A P K 9 aY) λa0=>C (j P 46 m 0) λa1=>C (A P K 9 a1) λa2=>C (w P .neq 9 X a0 a2) λc=>S c X K (k (j P 46 l 1)) λa3 af=>S c X af (qr (A P af 23 a3)) λa4 av=>S c X av (k (j P 46 m 1)) λa5 ah=>S c X ah (qr (A P ah 23 a5)) λa6 L=>S c X L (λq=>cZ L (G 33 [a4,a6] L) q) λa7 aw=>S c X aw (k (cI .not a7)) λa8 ak=>C (bC c (I (D Y)) (I a8)) λn=>S n X ak (k (j P 46 l 2)) λay Q=>S n X Q (qr (A P Q 4 ay)) λaz al=>S n X al (k (j P 46 m 2)) λaA R=>S n X R (qr (A P R 4 aA)) λaC am=>S n X am (k (w P .neq 4 X az aC)) λaD an=>C (bC n (I (D Y)) (I aD)) λi=>S i X an (k (j P 46 l 3)) λaE T=>S i X T (qr (A P T 43 aE)) λaF ao=>S i X ao (k (j P 46 m 3)) λaH V=>S i X V (qr (A P V 43 aH)) λaI ap=>S i X ap (k (w P .neq 43 X aF aI)) λaK aq=>C (bC i (I (D Y)) (I aK)) λa=>S a X aq (k (j P 46 l 4)) λaL W=>S a X W (qr (A P W 44 aL)) λaM ar=>S a X ar (k (j P 46 m 4)) λaN ab=>S a X ab (qr (A P ab 44 aN)) λaP F=>S a X F (λq=>cZ F (G 34 [aM,aP] F) q) λaQ au=>S a X au (k (cI .not aQ)) λaR ae=>C (bC a (I (D Y)) (I aR)) λaS=>aO (I aS) (I ((D X),ae)) (C (w P .add 3 Y aJ (J U 1)) λaX=>aj M ai aX ae))else u) (pb G N H)
def l6(G:e)(N:Nat):Nat->aa->aa->aa->ad->O
 |0,_,_,_,_=>u
 |n+1,a,c,aJ,H=>ry G N (l6 G N n) a c aJ H
def XV(G:e)(N:Nat)(c:aa->aa->aa->ad->O):∀V H,a7 P G N (d (d (L (d (L (L (L (n Tryz.f10)))))))) (λV H=>c (V 2) (V 3) (V 6) H) [(2,(λV H=>pb G N H))] (p Tryz.f10) V H=ry G N c (V 2) (V 3) (V 6) H:=by
 refine bm (q _) λV H=> ?_
 delta ry;generalize pb G N=a;revert a;refine id ?_;intro a;kernel_rfl
def l5(G:e)(N:Nat)(a c:aa)(H:ad):O:=l6 G N N a c (J U 0) H
def XX(G:e)(N:Nat):∀V H,a7 P G N (L (L (L (n Tryz.f10)))) (p Tryz.f10) [] (p Tryz.f10) V H=l5 G N (V 2) (V 3) H:=by
 refine bm ((Q M (XZ G N) ((Q M ((cn M ((cY (k:=λm V H=>l6 G N m (V 2) (V 3) (V 6) H) M (λV H=>M) (λm=>XV G N (l6 G N m)))))) (q _))))) λV H=> ?_
 delta l5;generalize l6 G N N=a;revert a;refine id ?_;intro a;kernel_rfl
def rz(G:e)(N:Nat)(af:aa->aa->aa->ad->O)(z F p:aa)(H:ad):O:=C (j P 26 z 0) λah=>C (A P H 22 ah) λai=>bU P .len [22] [ai] H λaj=>C (w P .lss 3 X p aj) λak=>aO (I ak) (C (j P 26 z 0) λK=>C (A P H 22 K) λR=>C (bX P 22 R p) λS=>C (j P 41 S 0) λL=>C (A P H 9 L) λT=>C (j P 26 F 0) λM=>C (A P H 22 M) λV=>C (bX P 22 V p) λW=>C (j P 41 W 0) λQ=>C (A P H 9 Q) λab=>C (w P .neq 9 X T ab) λa=>gN a X (k (j P 26 z 0)) λc=>gN a X (qr (A P (c.heap H) 22 c.val)) λh=>gN a X (bP p) λi=>gN a X (k (bX P 22 h.val i.val)) λl=>gN a X (k (j P 41 l.val 1)) λd=>gN a X (qr (A P (d.heap (l.heap (i.heap (h.heap (c.heap H))))) 23 d.val)) λo=>gN a X (k (j P 26 F 0)) λm=>gN a X (qr (A P (m.heap (o.heap (d.heap (l.heap (i.heap (h.heap (c.heap H))))))) 22 m.val)) λs=>gN a X (bP p) λv=>gN a X (k (bX P 22 s.val v.val)) λx=>gN a X (k (j P 41 x.val 1)) λn=>gN a X (qr (A P (n.heap (x.heap (v.heap (s.heap (m.heap (o.heap (d.heap (l.heap (i.heap (h.heap (c.heap H))))))))))) 23 n.val)) λy=>gN a X (λq=>cZ (y.heap (n.heap (x.heap (v.heap (s.heap (m.heap (o.heap (d.heap (l.heap (i.heap (h.heap (c.heap H)))))))))))) (G 33 [o.val,y.val] (y.heap (n.heap (x.heap (v.heap (s.heap (m.heap (o.heap (d.heap (l.heap (i.heap (h.heap (c.heap H))))))))))))) q) λB=>gN a X (k (cI .not B.val)) λE=>C (bC a (I (D Y)) (I E.val)) λae=>bif jN [0,1,0,7,15,31,0,64,0,448,960,1984,4095,8191,16383,32767,16383,131071,262143,524287,16383,1064959,16383,7356415,15745023,32522239,67108863,134217727,268435455] [0,1,2,3,4,5,6,7,8,9,10,11,12,13,14,15,16,17,18,19,20,21,22,23,24,25,26,27,28] [⟨0,.pure K,λH=>u⟩,⟨1,.read R,λH=>A P H 22 K⟩,⟨2,.pure p,λH=>u⟩,⟨3,.pure S,λH=>u⟩,⟨4,.pure L,λH=>u⟩,⟨5,.read T,λH=>A P H 9 L⟩,⟨6,.pure M,λH=>u⟩,⟨7,.read V,λH=>A P H 22 M⟩,⟨8,.pure p,λH=>u⟩,⟨9,.pure W,λH=>u⟩,⟨10,.pure Q,λH=>u⟩,⟨11,.read ab,λH=>A P H 9 Q⟩,⟨12,.pure a,λH=>u⟩,⟨13,.pure a,λH=>u⟩,⟨14,c,λH=>u⟩,⟨15,h,λH=>A P H 22 c.val⟩,⟨16,i,λH=>u⟩,⟨17,l,λH=>u⟩,⟨18,d,λH=>u⟩,⟨19,o,λH=>A P H 23 d.val⟩,⟨20,m,λH=>u⟩,⟨21,s,λH=>A P H 22 m.val⟩,⟨22,v,λH=>u⟩,⟨23,x,λH=>u⟩,⟨24,n,λH=>u⟩,⟨25,y,λH=>A P H 23 n.val⟩,⟨26,B,λH=>u⟩,⟨27,E,λH=>u⟩,⟨28,.pure ae,λH=>u⟩] H then(aO (I ae) (I ((D X),(E.heap (B.heap (y.heap (n.heap (x.heap (v.heap (s.heap (m.heap (o.heap (d.heap (l.heap (i.heap (h.heap (c.heap H)))))))))))))))) (C (w P .add 3 Y p (J U 1)) λal=>af z F al (E.heap (B.heap (y.heap (n.heap (x.heap (v.heap (s.heap (m.heap (o.heap (d.heap (l.heap (i.heap (h.heap (c.heap H))))))))))))))))else u) (l5 G N z F H)
def ky(G:e)(N:Nat):Nat->aa->aa->aa->ad->O
 |0,_,_,_,_=>u
 |n+1,a,c,d,H=>rz G N (ky G N n) a c d H
def XW(G:e)(N:Nat)(c:aa->aa->aa->ad->O):∀V H,a7 P G N (d (d (L (d (L (L (n Tryz.f10))))))) (λV H=>c (V 2) (V 3) (V 5) H) [(0,(λV H=>l5 G N (V 2) (V 3) H))] (p Tryz.f10) V H=rz G N c (V 2) (V 3) (V 5) H:=by
 refine bm (q _) λV H=> ?_
 delta rz;generalize l5 G N=a;revert a;refine id ?_;intro a;kernel_rfl
def wC(G:e)(N:Nat)(F y:aa)(H:ad):O:=bO H (cg (H).next F) λh m=>bO m (cg (m).next y) λi d=>C (j P 26 h 0) λau=>C (A P d 22 au) λT=>bU P .len [22] [T] d λV=>C (j P 26 i 0) λW=>C (A P d 22 W) λab=>bU P .len [22] [ab] d λae=>C (w P .neq 3 X V ae) λa=>S a X d (k (j P 26 h 2)) λaf s=>S a X s (qr (A P s 24 af)) λB v=>S a X v (λq=>et (bK P .empty .len [24] [B]) (bK P v .len [24] [B]) q) λah M=>S a X M (k (j P 26 i 2)) λai x=>S a X x (qr (A P x 24 ai)) λE z=>S a X z (λq=>et (bK P .empty .len [24] [E]) (bK P z .len [24] [E]) q) λaj Q=>S a X Q (k (w P .neq 3 X ah aj)) λak R=>C (bC a (I (D Y)) (I ak)) λc=>S c X R (k (j P 26 h 1)) λal n=>S c X n (qr (A P n 23 al)) λam K=>S c X K (k (j P 26 i 1)) λan o=>S c X o (qr (A P o 23 an)) λao l=>S c X l (λq=>cZ l (G 33 [am,ao] l) q) λap L=>S c X L (k (cI .not ap)) λaq p=>C (bC c (I (D Y)) (I aq)) λar=>aO (I ar) (I ((D X),p)) (ky G N N h i (J U 0) p)
def Vi(N:Nat){F y:aa}{H:ad}{r:aa×ad}(h:wC (al P aj) N F y H=I r):al P aj 10 [F,y] H=I r:=bu N (S:=λG=>wC G N F y H) Tryz.func10 (λG=>cG ((Q M ((Q M ((Q M (XX G N) ((Q M ((cn M ((cY (k:=λm V H=>ky G N m (V 2) (V 3) (V 5) H) M (λV H=>M) (λm=>XW G N (ky G N m)))))) (q _))))) (q _))) (q _))) (by delta wC;generalize ky G N N=a;revert a;refine id ?_;intro a;kernel_rfl)) h
def pI(G:e)(N:Nat)(H:ad):O:=some ((D Y),H)
def Y6(G:e)(N:Nat):∀V H,a7 P G N (L (L (L (n Tryz.f33)))) (p Tryz.f33) [] (p Tryz.f33) V H=pI G N H:=by
 refine bm (q _) λV H=> ?_
 delta pI;kernel_rfl
def rR(G:e)(N:Nat)(l:aa->aa->aa->ad->O)(F y c:aa)(H:ad):O:=bU P .len [23] [F] H λz=>C (w P .lss 3 X c z) λB=>aO (I B) (C (bX P 23 F c) λK=>C (j P 66 K 0) λL=>C (A P H 9 L) λM=>C (bX P 23 y c) λQ=>C (j P 66 Q 0) λR=>C (A P H 9 R) λT=>C (w P .neq 9 X M T) λa=>S a X H (bP F) λV m=>S a X m (bP c) λW o=>S a X o (k (bX P 23 V W)) λab p=>S a X p (k (j P 66 ab 1)) λae h=>S a X h (qr (A P h 43 ae)) λaf q=>S a X q (bP y) λah s=>S a X s (bP c) λai v=>S a X v (k (bX P 23 ah ai)) λaj x=>S a X x (k (j P 66 aj 1)) λak i=>S a X i (qr (A P i 43 ak)) λal n=>S a X n (k (w P .neq 43 X af al)) λam d=>C (bC a (I (D Y)) (I am)) λan=>aO (I an) (I ((D X),d)) (C (w P .add 3 Y c (J U 1)) λE=>l F y E d)) (pI G N H)
def lu(G:e)(N:Nat):Nat->aa->aa->aa->ad->O
 |0,_,_,_,_=>u
 |n+1,F,y,a,H=>rR G N (lu G N n) F y a H
def Y5(G:e)(N:Nat)(c:aa->aa->aa->ad->O):∀V H,a7 P G N (d (d (L (d (L (L (n Tryz.f33))))))) (λV H=>c (V 0) (V 1) (V 5) H) [(0,(λV H=>pI G N H))] (p Tryz.f33) V H=rR G N c (V 0) (V 1) (V 5) H:=by
 refine bm (q _) λV H=> ?_
 delta rR;generalize pI G N=a;revert a;refine id ?_;intro a;kernel_rfl
def rQ(G:e)(N:Nat)(F y:aa)(H:ad):O:=bU P .len [23] [F] H λc=>bU P .len [23] [y] H λd=>C (w P .neq 3 X c d) λa=>aO (I a) (I ((D X),H)) (lu G N N F y (J U 0) H)
def WE(N:Nat){F y:aa}{H:ad}{r:aa×ad}(h:rQ (al P aj) N F y H=I r):al P aj 33 [F,y] H=I r:=bu N (S:=λG=>rQ G N F y H) Tryz.func33 (λG=>cG ((Q M ((Q M ((Q M (Y6 G N) ((Q M ((cn M ((cY (k:=λm V H=>lu G N m (V 0) (V 1) (V 5) H) M (λV H=>M) (λm=>Y5 G N (lu G N m)))))) (q _))))) (q _))) (q _))) (by delta rQ;generalize lu G N N=a;revert a;refine id ?_;intro a;kernel_rfl)) h
end
end
def Tp(x y:Bool):xy (λb=>aa.bool (!b)) (bif x then(bif y then I Y else I X)else I X)=I (D (!(x&&y))):=by cases x<;>cases y<;>rfl
def vX(a b:ay)(c d:Int):w P .neq 43 X (.agg [Z a,J U c]) (.agg [Z b,J U d])=I (D (!(a==b&&c==d))):=
 Eq.trans M (Tp (a==b) (c==d))
def M8{N:Nat}{l m:List bq}(ak:l.length<=1000000000)(K:l.length=m.length){p o s q:Nat}{kc lc:Option Nat}{M O:Bool}{y z:List (List aa)}{H:ad}{ok ok':Nat->Prop}(i:H.get p=I (.row M 4 y))(k:H.get s=I (.row O 4 z))(ap:∀(j:Nat) (a:bq),l[j]? =I a->∃cs,y[o+j]? =I cs/\cQ.V H ok a cs)(aE:∀(j:Nat) (a:bq),m[j]? =I a->∃cs,z[q+j]? =I cs/\cQ.V H ok' a cs):
  ∀(c j n:Nat),j+c=l.length->c<n->
  W (lu (al P aj) N n (.ax p o l.length 4 kc) (.ax s q m.length 4 lc) (J U j) H) λr H'=>r= D (dl fm (l.drop j) (m.drop j))/\H'=H
 |_,_,0,_,x=>ae
 |0,j,n+1,G,x=>by
  have h:¬((j:Int)<(l.length:Int)):=ae;have d1:l.drop j=[]:=jk ae;have d2:m.drop j=[]:=jk ae;simp(disch:=try exact ah)only[lu,pI,rR,ai,h,decide_false];exact aD.2 ⟨by rw[d1,d2];rfl,rfl⟩
 |c+1,j,n+1,G,x=>by
  have v:j<l.length:=ae;have w:j<m.length:=ae;have h:(j:Int)<(l.length:Int):=ae;have R:(j:Int)<(m.length:Int):=ae;have Q:(0:Int)<=(j:Int):=ae;have aq:((j:Int)).toNat=j:=ae;obtain⟨cs,d,E⟩:=ap j l[j] (cd v);obtain⟨C,e,F⟩:=aE j m[j] (cd w);obtain rfl:cs=l[j].cells:=E;obtain rfl:C=m[j].cells:=F;have L:IntKind.i64.wrap ((j:Int)+1)=((j+1:Nat):Int):=by rw[wrap_i64 ae ae];omega
  have A:l.drop j=l[j]::l.drop (j+1):=fg v;have B:m.drop j=m[j]::m.drop (j+1):=fg w;rw[A,B,dl];generalize l[j]=a at d ⊢;generalize m[j]=b at e ⊢;simp only[bq.cells]at d e;have go:fm a b=Y->W (lu (al P aj) N n (.ax p o l.length 4 kc) (.ax s q m.length 4 lc) (J U ((j+1:Nat):Int)) H) λr H'=>r= D (fm a b&&dl fm (l.drop (j+1)) (m.drop (j+1)))/\H'=H:=λau=>by
   rw[au,FG];exact M8 ak K i k ap aE c (j+1) n ae ae
  have au:fm a b=(a.name==b.name&&(a.b5==b.b5&&a.ci==b.ci)):=rfl;rw[lu];unfold rR;cases c0:a.name==b.name with
  |false=>
   rw[c0,lm]at au;simp(disch:=try exact ah)only[ai,h,decide_true,aq,i,k,d,e,c0,rs];exact aD.2 ⟨by rw[au,lm],rfl⟩
  |true=>
   rw[c0,FG]at au;cases aQ:(a.b5==b.b5&&a.ci==b.ci)with
   |false=>
    simp(disch:=try exact ah)only[mn,vw,ai,h,decide_true,aq,i,k,d,e,c0,vX,aQ,rs,pq];exact aD.2 ⟨by rw[au,aQ,lm],rfl⟩
   |true=>
    simp(disch:=try exact ah)only[mn,vw,ai,h,decide_true,aq,i,k,d,e,c0,vX,aQ,pq,L];exact go (by rw[au,aQ])
def Ci{H:ad}{l m:List bq}(ak:l.length<=1000000000){v w:aa}{ok ok':Nat->Prop}(d:cf cQ H ok l v)(e:cf cQ H ok' m w):W (al P aj 33 [v,w] H) λr H'=>r= D (dl fm l m)/\H'=H:=by
 refine bt (λ_=>WE (l.length+1)) ?_;have aQ:=λH'=>d.hY H'
 have c2:=λH'=>e.hY H'
 have z0:((0:Nat):Int)=0:=rfl;by_cases h:l.length=m.length
 ·by_cases i:l.length=0
  ·have n:m.length=0:=ae;obtain rfl:=hi.1 i;obtain rfl:=hi.1 n;simp only[lu,pI,rR,rQ,ai,aQ,c2,z0,bne_self_eq_false,Int.lt_irrefl,decide_false];exact aD.2 ⟨rfl,rfl⟩
  ·obtain⟨B,A,o,E,y,rfl,a,s⟩:=d.row i;obtain⟨C,i2,p,F,z,rfl,c,x⟩:=e.row ae;have k:((l.length:Int) != (m.length:Int))=false:=by simp;omega
   have q:cQ.esz=4:=rfl;rw[q]at aQ c2 a c ⊢;simp only[rQ,bU,bU,aR,b8,aQ,c2,k];have:=M8 (N:=l.length+1) ak h (kc:=o) (lc:=p) a c s x l.length 0 (l.length+1) ae ae;simpa using this
 ·have j:((l.length:Int) != (m.length:Int))=true:=by simp;omega
  simp only[rQ,bU,bU,aR,b8,aQ,c2,j];exact aD.2 ⟨by rw[m1 _ _ h],rfl⟩
def M9{N:Nat}{l m:List dB}(ak:l.length<=1000000000)(av:l.length=m.length)(au:∀x∈l,x.fields.length<=1000000000){a b R O ab T:Nat}{kc lc:Option Nat}{az aA:Bool}{L S:List (List aa)}{H:ad}{ok ok':Nat->Prop}{an f1 ao f2:aa}(h:H.get a=I (.row X 3 [[.ax R O l.length 3 kc,an,f1]]))(s:H.get b=I (.row X 3 [[.ax ab T m.length 3 lc,ao,f2]]))(p:H.get R=I (.row az 3 L))(q:H.get ab=I (.row aA 3 S))(ap:∀(j:Nat) (a:dB),l[j]? =I a->∃cs,L[O+j]? =I cs/\dq.V H ok a cs)(aE:∀(j:Nat) (a:dB),m[j]? =I a->∃cs,S[T+j]? =I cs/\dq.V H ok' a cs){Q:aa->ad->Prop}:
  ∀(c j n:Nat),j+c=l.length->c<n->(dl gL (l.drop j) (m.drop j)=Y->W (l5 (al P aj) N (.ptr a 0 0) (.ptr b 0 0) H) Q)->(dl gL (l.drop j) (m.drop j)=X->Q (D X) H)->
  W (ky (al P aj) N n (.ptr a 0 0) (.ptr b 0 0) (J U j) H) Q
 |_,_,0,_,G,_,_=>ae
 |0,j,n+1,ar,G,e,d=>by
  have i:¬((j:Int)<(l.length:Int)):=ae;have d1:l.drop j=[]:=jk ae;have d2:m.drop j=[]:=jk ae;rw[ky];unfold rz;simp-implicitDefEqProofs(disch:=try exact ah)only[ai,h,i,decide_false];exact e (by rw[d1,d2];rfl)
 |c+1,j,n+1,ar,G,e,d=>by
  have E:j<l.length:=ae;have F:j<m.length:=ae;have i:(j:Int)<(l.length:Int):=ae;have aG:(j:Int)<(m.length:Int):=ae;have aF:(0:Int)<=(j:Int):=ae;have aq:((j:Int)).toNat=j:=ae;obtain⟨cs,k,v,rfl,A⟩:=ap j l[j] (cd E);obtain⟨aC,o,w,rfl,C⟩:=aE j m[j] (cd F);have ay:IntKind.i64.wrap ((j:Int)+1)=((j+1:Nat):Int):=by rw[wrap_i64 ae ae];omega
  have af:l.drop j=l[j]::l.drop (j+1):=fg E;have am:m.drop j=m[j]::m.drop (j+1):=fg F;have K:=au l[j] (kl _);rw[af,am,dl]at e d;generalize l[j]=x at k e d A K;generalize m[j]=y at o e d C;have br:=A.one;have bI:=C.one;have aB:gL x y=Y->W (ky (al P aj) N n (.ptr a 0 0) (.ptr b 0 0) (J U ((j+1:Nat):Int)) H) Q:=λaw=>by
   rw[aw,FG]at e d;exact M9 ak av au h s p q ap aE c (j+1) n ae ae e d
  have z:gL x y=(x.name==y.name&&dl fm x.fields y.fields):=rfl;rw[ky];unfold rz;cases c0:x.name==y.name with
  |false=>
   simp-implicitDefEqProofs(disch:=try exact ah)only[ai,h,s,i,decide_true,aq,p,q,k,o,c0,rs,ab4];refine qk (sY M ?_) ?_
   ·simp only[mJ]
    repeat (refine B (λ_ _=> .inl rfl) ?_)
    trivial
   ·refine aD.2 (d (by rw[z,c0,lm,lm]))
  |true=>
   simp-implicitDefEqProofs(disch:=try exact ah)only[ai,h,s,i,decide_true,aq,p,q,k,o,c0,pq,DR];refine dZ (Ci K A C) ?_;rintro _ _ ⟨rfl,rfl⟩;refine⟨aV _,?_⟩;cases aQ:dl fm x.fields y.fields with
   |true=>
    simp-implicitDefEqProofs(disch:=try exact ah)only[aR,pq,DR];refine qk (sY M ?_) ?_
    ·simp only[mJ]
     repeat (refine B (λ_ _=> .inl rfl) ?_)
     trivial
    ·simp-implicitDefEqProofs(disch:=try exact ah)only[aR,b8,ay];exact aB (by rw[z,c0,aQ];rfl)
   |false=>
    simp-implicitDefEqProofs(disch:=try exact ah)only[aR,rs,DR];refine qk (sY M ?_) (aD.2 (d (by rw[z,c0,aQ];rfl)));simp only[mJ]
    repeat (refine B (λ_ _=> .inl rfl) ?_)
    trivial
def UH(a b:aa):aZ (I a) b=aa.beq a b:=rfl
def LX{v w:aa}{n r:ay}{d p:Int}{h:Bool}(a:aZ (I v) v=Y)(c:aZ (I w) w=Y):aZ (I (.agg [Z n,v,D h,Z r,J U d,w,J U p])) (.agg [Z n,v,D h,Z r,J U d,w,J U p])=true:=by
 rw[UH]at a c;simp[aZ,aa.beq,fK.beq,a,c]
def cf.rd{a:Type}{K:ja a}{H:ad}{ok:Nat->Prop}{l:List a}{v:aa}(h:cf K H ok l v):aZ (I v) v=true:=by
 rcases h with⟨rfl,_⟩|⟨L,i,cap,ro,els,rfl,_⟩|⟨L,i,cap,rfl,_⟩
 ·rfl
 ·exact l3 _ _ _ _ _
 ·exact l3 _ _ _ _ _
def cj.rd{H:ad}{ok:Nat->Prop}{l:List a6}{v:aa}(h:cj H ok l v):aZ (I v) v=true:=by
 rcases h with⟨rfl,_⟩|⟨L,i,cap,ro,els,rfl,_⟩|⟨L,i,cap,rfl,_⟩
 ·rfl
 ·exact l3 _ _ _ _ _
 ·exact l3 _ _ _ _ _
def M3{N:Nat}{l m:List Fn}(ak:l.length<=1000000000)(aO:l.length=m.length)(au:∀x∈l,sK x){a b ay ar aB aA:Nat}{kc lc:Option Nat}{aU aW:Bool}{ao az:List (List aa)}{ok ok':Nat->Prop}{aL f1 aM f2:aa}:
  ∀(c j n:Nat) (H:ad),j+c=l.length->c<n->H.get a=I (.row X 3 [[f1,aL,.ax ay ar l.length 7 kc]])->H.get b=I (.row X 3 [[f2,aM,.ax aB aA m.length 7 lc]])->H.get ay=I (.row aU 7 ao)->H.get aB=I (.row aW 7 az)->(∀(j:Nat) (a:Fn),l[j]? =I a->∃cs,ao[ar+j]? =I cs/\dh.V H ok a cs)->(∀(j:Nat) (a:Fn),m[j]? =I a->∃cs,az[aA+j]? =I cs/\dh.V H ok' a cs)->
  W (l6 (al P aj) N n (.ptr a 0 0) (.ptr b 0 0) (J U j) H) λr H'=>r= D (dl h4 (l.drop j) (m.drop j))/\aw H H'
 |_,_,0,_,_,an,_,_,_,_,_,_=>ae
 |0,j,n+1,H,aN,an,E,L,G,K,ap,aE=>by
  have T:¬((j:Int)<(l.length:Int)):=ae;have d1:l.drop j=[]:=jk ae;have d2:m.drop j=[]:=jk ae;rw[l6];unfold ry pb;simp(disch:=try exact ah)only[ai,E,T,decide_false];exact aD.2 ⟨by rw[d1,d2];rfl,.refl _⟩
 |c+1,j,n+1,H,aN,an,E,L,G,K,ap,aE=>by
  have af:j<l.length:=ae;have am:j<m.length:=ae;have T:(j:Int)<(l.length:Int):=ae;have a3:(j:Int)<(m.length:Int):=ae;have a2:(0:Int)<=(j:Int):=ae;have aq:((j:Int)).toNat=j:=ae;obtain⟨cs,aX,v,A,rfl,M,Q⟩:=ap j l[j] (cd af);obtain⟨a0,aH,w,F,rfl,O,R⟩:=aE j m[j] (cd am);have aT:IntKind.i64.wrap ((j:Int)+1)=((j+1:Nat):Int):=by rw[wrap_i64 ae ae];omega
  have aJ:l.drop j=l[j]::l.drop (j+1):=fg af;have aK:m.drop j=m[j]::m.drop (j+1):=fg am;have ab:=au l[j] (kl _);rw[aJ,aK,dl];generalize l[j]=x at aX M Q ab ⊢;generalize m[j]=y at aH O R ⊢;have br:=M.one;have bI:=O.one;have b2:=Q.db;have cM:=R.db;have a6:=ad.aF E;have a7:=ad.aF L;have a4:=ad.aF G;have a5:=ad.aF K;rw[l6];unfold ry;have aY:=LX (n:=x.name) (r:=x.cm) (d:=x.rd) (p:=x.pos) (h:=x.has) M.rd Q.rd;have er:=LX (n:=y.name) (r:=y.cm) (d:=y.rd) (p:=y.pos) (h:=y.has) O.rd R.rd;simp(disch:=try exact ah)only[mn,ai,ad.gU,E,L,T,decide_true,aq,G,K,aX,aH,br,bI,b2,cM,aY,er]
  have k:=(aw.push H (.row X 7 [[Z x.name,v,D x.has,Z x.cm,J U x.rd,A,J U x.pos]])).a1 (.row X 7 [[Z y.name,w,D y.has,Z y.cm,J U y.rd,F,J U y.pos]]);have C:=(aw.push (H.push (.row X 7 [[Z x.name,v,D x.has,Z x.cm,J U x.rd,A,J U x.pos]])) (.row X 7 [[Z y.name,w,D y.has,Z y.cm,J U y.rd,F,J U y.pos]])).get (ad.a_ H (.row X 7 [[Z x.name,v,D x.has,Z x.cm,J U x.rd,A,J U x.pos]]));have s:=ad.a_ (H.push (.row X 7 [[Z x.name,v,D x.has,Z x.cm,J U x.rd,A,J U x.pos]])) (.row X 7 [[Z y.name,w,D y.has,Z y.cm,J U y.rd,F,J U y.pos]])
  simp only[ad.bb]at s;generalize (H.push (.row X 7 [[Z x.name,v,D x.has,Z x.cm,J U x.rd,A,J U x.pos]])).push (.row X 7 [[Z y.name,w,D y.has,Z y.cm,J U y.rd,F,J U y.pos]])=aZ at k C s ⊢;have aS:h4 x y=(x.name==y.name&&(dl fm x.params y.params&&(x.has==y.has&&((x.cm==y.cm&&x.rd==y.rd)&&eB x.body y.body)))):=rfl;rw[aS];cases c0:x.name==y.name with
  |false=>
   simp(disch:=try exact ah)only[ai,rs];exact aD.2 ⟨by simp only[lm],k⟩
  |true=>
   simp(disch:=try exact ah)only[mn,ai,pq,C,s];refine dZ (Ci ab.1 (M.aP (ce.av k)) (O.aP (ce.av k))) ?_;rintro _ _ ⟨rfl,rfl⟩;refine⟨aV _,?_⟩;cases aQ:dl fm x.params y.params with
   |false=>
    simp(disch:=try exact ah)only[ai];exact aD.2 ⟨by simp only[lm,wx],k⟩
   |true=>
   cases c2:x.has==y.has with
   |false=>
    simp(disch:=try exact ah)only[mn,ai,pq,rs,C,s,c2];exact aD.2 ⟨by simp only[lm,wx],k⟩
   |true=>
   cases c3:(x.cm==y.cm&&x.rd==y.rd)with
   |false=>
    simp(disch:=try exact ah)only[mn,vw,ai,pq,rs,C,s,c2,vX,c3];exact aD.2 ⟨by simp only[lm,wx],k⟩
   |true=>
    simp(disch:=try exact ah)only[mn,vw,ai,pq,C,s,c2,vX,c3];refine dZ (Bq (B:=1000000000) aC (λe _=>De aC e) ab.2 (Q.av k) (R.av k)) ?_;rintro _ aI ⟨rfl,aG⟩;refine⟨aG.1,?_⟩;have o:=k.trans aG;cases c4:eB x.body y.body with
    |false=>
     simp(disch:=try exact ah)only[aR,rs];exact aD.2 ⟨by simp only[lm,wx],o⟩
    |true=>
     simp(disch:=try exact ah)only[aR,b8,pq,aT];refine(M3 ak aO au (ok:=ok) (ok':=ok') c (j+1) n aI ae ae (o.get E) (o.get L) (o.get G) (o.get K) (λi z S=> ?_) (λi z S=> ?_)).mono ?_
     ·obtain⟨p,q,r⟩:=ap i z S;exact⟨p,q,dh.aP (ce.av o) r⟩
     ·obtain⟨p,q,r⟩:=aE i z S;exact⟨p,q,dh.aP (ce.av o) r⟩
     ·rintro v H' ⟨rfl,q⟩;exact⟨by simp only[FG],o.trans q⟩
def aa5{N:Nat}{l m:List Fn}(ak:l.length<=1000000000)(q:l.length=m.length)(au:∀x∈l,sK x)(e:l.length<N){H:ad}{a b:Nat}{ok ok':Nat->Prop}{k f1 o f2 v w:aa}(d:H.get a=I (.row X 3 [[f1,k,v]]))(h:H.get b=I (.row X 3 [[f2,o,w]]))(c:cf dh H ok l v)(p:cf dh H ok' m w):
  W (l5 (al P aj) N (.ptr a 0 0) (.ptr b 0 0) H) λr H'=>r= D (dl h4 l m)/\aw H H':=by
 unfold l5;by_cases i:l.length=0
 ·have s:m.length=0:=ae;obtain rfl:=hi.1 i;obtain rfl:=hi.1 s;obtain⟨n,rfl⟩:∃n,N=n+1:=⟨N-1,by simp only[ij]at e;omega⟩;have aQ:=λH'=>c.jW H'
  have br:=c.one;have z0:((0:Nat):Int)=0:=rfl;rw[l6];unfold ry pb;simp only[ai,d,aQ,z0,Int.lt_irrefl,decide_false];exact aD.2 ⟨rfl,.refl _⟩
 ·obtain⟨K,E,F,M,B,rfl,aX,z⟩:=c.row i;obtain⟨L,i2,G,O,C,rfl,j,A⟩:=p.row ae;have y:dh.esz=7:=rfl;rw[y]at d h aX j;have:=M3 (N:=N) ak q au l.length 0 N H ae e d h aX j z A;simpa using this
def aa6{N:Nat}{l m:List dB}(ak:l.length<=1000000000)(y:l.length=m.length)(au:∀x∈l,x.fields.length<=1000000000)(e:l.length<N){H:ad}{a b:Nat}{ok ok':Nat->Prop}{o f1 p f2 v w:aa}(d:H.get a=I (.row X 3 [[v,o,f1]]))(i:H.get b=I (.row X 3 [[w,p,f2]]))(c:cf dq H ok l v)(q:cf dq H ok' m w){Q:aa->ad->Prop}(h:dl gL l m=Y->W (l5 (al P aj) N (.ptr a 0 0) (.ptr b 0 0) H) Q)(s:dl gL l m=X->Q (D X) H):
  W (ky (al P aj) N N (.ptr a 0 0) (.ptr b 0 0) (J U 0) H) Q:=by
 by_cases j:l.length=0
 ·have z:m.length=0:=ae;obtain rfl:=hi.1 j;obtain rfl:=hi.1 z;obtain⟨n,rfl⟩:∃n,N=n+1:=⟨N-1,by simp only[ij]at e;omega⟩;have aQ:=λH'=>c.jV H'
  have br:=c.one;have z0:((0:Nat):Int)=0:=rfl;rw[ky];unfold rz;simp only[ai,d,aQ,z0,Int.lt_irrefl,decide_false];exact h rfl
 ·obtain⟨M,G,K,R,E,rfl,aX,B⟩:=c.row j;obtain⟨O,i2,L,S,F,rfl,k,C⟩:=q.row ae;have A:dq.esz=3:=rfl;rw[A]at d i aX k;exact M9 (N:=N) ak y au d i aX k B C l.length 0 N ae e h s
def Vf{g g':bw}(au:qh g){H:ad}{ok ok':Nat->Prop}{rv gv fv d a dI:aa}(k:cf dq H ok g.bJ rv)(w:cf cQ H ok g.globals gv)(m:cf dh H ok g.funcs fv)(n:cf dq H ok' g'.bJ d)(x:cf cQ H ok' g'.globals a)(o:cf dh H ok' g'.funcs dI):
  W (al P aj 10 [.agg [rv,gv,fv],.agg [d,a,dI]] H) λr H'=>r= D (jE g g')/\aw H H':=by
 refine bt (λ_=>Vi 1000000001) ?_;have br:=k.one;have bI:=w.one;have b2:=m.one;have aX:=n.one;have B:=x.one;have C:=o.one;have y:∀l,cg l (.agg [rv,gv,fv])=I (.ptr l 0 0,.row X 3 [[rv,gv,fv]]):=λl=>ei l _ (by simp only[KL,NO,br,bI,b2,LM])
 have z:∀l,cg l (.agg [d,a,dI])=I (.ptr l 0 0,.row X 3 [[d,a,dI]]):=λl=>ei l _ (by simp only[KL,NO,aX,B,C,LM])
 have c:=(aw.push H (.row X 3 [[rv,gv,fv]])).a1 (.row X 3 [[d,a,dI]]);have h:=(aw.push (H.push (.row X 3 [[rv,gv,fv]])) (.row X 3 [[d,a,dI]])).get (ad.a_ H (.row X 3 [[rv,gv,fv]]));have e:=ad.a_ (H.push (.row X 3 [[rv,gv,fv]])) (.row X 3 [[d,a,dI]]);simp only[ad.bb]at e;have aQ:=λH'=>k.jV H'
 have c2:=λH'=>n.jV H'
 have c3:=λH'=>m.jW H'
 have c4:=λH'=>o.jW H'
 have A:jE g g'=(dl gL g.bJ g'.bJ&&(dl fm g.globals g'.globals&&dl h4 g.funcs g'.funcs)):=rfl;rw[A];unfold wC;simp only[aR,y,z,ad.bb];generalize (H.push (.row X 3 [[rv,gv,fv]])).push (.row X 3 [[d,a,dI]])=E at c h e ⊢;have p:=ce.av (ok:=ok) c;have s:=ce.av (ok:=ok') c;by_cases ap:g.bJ.length=g'.bJ.length
 ·have i:((g.bJ.length:Int) != (g'.bJ.length:Int))=false:=by simp;omega
  by_cases aE:g.funcs.length=g'.funcs.length
  ·have j:((g.funcs.length:Int) != (g'.funcs.length:Int))=false:=by simp;omega
   simp only[mn,ai,h,e,aQ,c2,c3,c4,i,j];refine dZ (Ci au.jQ (w.aP p) (x.aP s)) ?_;rintro _ _ ⟨rfl,rfl⟩;refine⟨aV _,?_⟩;cases bB:dl fm g.globals g'.globals with
   |false=>
    simp only[aR,rs];exact aD.2 ⟨by simp only[lm,wx],c⟩
   |true=>
    simp only[aR,pq];refine aa6 au.r.1 ap au.r.2 (by have:=au.r.1;omega) h e (k.aP p) (n.aP s) (λcc=> ?_) (λcc=> ?_)
    ·rw[cc];refine(aa5 au.f.1 aE au.f.2 (by have:=au.f.1;omega) h e (m.aP p) (o.aP s)).mono ?_;rintro v H' ⟨rfl,q⟩;exact⟨by simp only[FG],c.trans q⟩
    ·exact⟨by rw[cc,lm],c⟩
  ·have j:((g.funcs.length:Int) != (g'.funcs.length:Int))=true:=by simp;omega
   simp only[ai,h,e,aQ,c2,c3,c4,i,j];exact aD.2 ⟨by rw[m1 g.funcs g'.funcs aE,wx,wx],c⟩
 ·have i:((g.bJ.length:Int) != (g'.bJ.length:Int))=true:=by simp;omega
  simp only[ai,h,e,aQ,c2,i];exact aD.2 ⟨by rw[m1 g.bJ g'.bJ ap,lm],c⟩
def RG(p:bq)(l:List bQ):flat (dw p++l)=p.name++([58,32]++(flat (cR p.b5 p.ci)++flat l)):=AG _ _ _ _
def oM{p:bq}(h:fd p):(flat (dw p)).length<=40:=by
 have:=gR h.n;have:=iU h.o;have:=h.o.2.1;unfold dw;rw[Bm];omega
def BQ{H:ad}{p:bq}(h:fd p):W (al P aj 37 [.agg p.cells] H) λv H'=>v= Z (flat (dw p))/\aw H H':=by
 refine bt (λ_=>WG 0) ?_;have d:∀l,cg l (.agg p.cells)=I (.ptr l 0 0,.row X 4 [p.cells]):=λl=>ei l _ rfl
 have e:=aw.push H (.row X 4 [p.cells]);have a:=ad.a_ H (.row X 4 [p.cells]);have k:=gR h.n;have m:=iU h.o;have q:=h.o.2.1;have ak:=lU p.b5 p.ci;simp only[bq.cells]at d e a ⊢;rw[yg];simp(disch:=try exact ah)only[mn,vw,ai,d];refine aA (sC h.o.1 ae ae) ?_;rintro _ j ⟨rfl,c⟩;refine⟨c.1,?_⟩;have i:=c.get a;simp(disch:=try exact dz)only[ai,a,i,cJ];have:=RG p [];rw[ef,dV,ef]at this;exact aD.2 ⟨by rw[this];simp,e.trans c⟩
def Ka{N:Nat}{y:aa->aa->aa->ad->O}{r x K m i e z i2:Nat}{aQ R:Option Nat}{ar au:Bool}{els A:List (List aa)}{gv fv:aa}{nm:ay}{pos:Int}{H0:ad}{l:List bq}(V:i<m)(q:H0.get r=I (.row X 3 [[.ax x K m 3 aQ,gv,fv]]))(v:H0.get x=I (.row ar 3 els))(s:els[K+i]? =I [Z nm,.ax z i2 e 4 R,J U pos])(C:H0.get z=I (.row au 4 A))(ak:∀(j:Nat) (a:bq),l[j]? =I a->∃cs,A[i2+j]? =I cs/\cs=a.cells)(am:l.length=e)(G:∀p∈l,fd p)(an:m<=1000/\e<=1000){Q:aa->ad->Prop}:
  ∀(c j k:Nat) (acc:ay) (H:ad),j+c=e->c<k->acc.length+100*c<=1000000000000->aw H0 H->(∀H',aw H0 H'->W (nA (al P aj) N y (.ptr r 0 0) (Z (acc++flat (ik (l.drop j)))) (J U i) H') Q)->
  W (l8 (al P aj) N y k (.ptr r 0 0) (Z acc) (J U i) (J U j) H) Q
 |_,_,0,_,_,_,F,_,_,_=>ae
 |0,j,k+1,acc,H,af,F,T,d,h=>by
  have o:¬((j:Int)<(e:Int)):=ae;have ab:(i:Int)<(m:Int):=ae;have aq:((i:Int)).toNat=i:=ae;have bf:=d.get q;have n:=d.get v;simp(disch:=try exact ah)only[l8,rG,ai,bf,n,aq,s,o,decide_false];have d1:l.drop j=[]:=jk ae;have:=h H d;rw[d1,ik,dV,ef]at this;exact this
 |c+1,j,k+1,acc,H,af,F,T,d,h=>by
  have E:j<l.length:=ae;have o:(j:Int)<(e:Int):=ae;have ab:(i:Int)<(m:Int):=ae;have aq:((i:Int)).toNat=i:=ae;have ao:((j:Int)).toNat=j:=ae;have av:IntKind.i64.wrap ((j:Int)+1)=((j+1:Nat):Int):=by rw[wrap_i64 ae ae];omega
  obtain⟨cs,aX,rfl⟩:=ak j l[j] (cd E);have S:l.drop j=l[j]::l.drop (j+1):=fg E;have w:=G l[j] (kl _);rw[S]at h;generalize l[j]=p at aX w h;have az:=oM w;have bf:=d.get q;have n:=d.get v;have f1:=d.get C;have B:=BQ (H:=H) w;simp only[bq.cells]at aX B;simp(disch:=try exact dz)only[l8,rG,ai,bf,n,f1,aq,ao,s,o,decide_true,aX,cJ];refine aA B ?_;rintro _ M ⟨rfl,L⟩;refine⟨L.1,?_⟩;simp(disch:=try exact dz)only[aR,b8,cJ,av];refine Ka V q v s C ak am G an c (j+1) k _ M ae ae (by simp only[de,gh,ij];omega) (d.trans L) λH' ap=> ?_
  have:=h H' ap;rw[ik,AF,ec,dQ,oC]at this;simpa using this
def Bi:∀l:List bq,(∀p∈l,fd p)->(flat (ik l)).length<=44*l.length
 |[],_=>by simp[ik,flat]
 |p::r,h=>by
  have c:=oM (h p (by simp));have d:=Bi r λx a=>h x (tu _ a)
  rw[ik,iS,dr,dW,jX];simp only[gh,ij];omega
def IN(x:dB)(l:List bQ):flat (o0 x++l)=sE++([32]++(x.name++([32,123,10]++(flat (ik x.fields)++([125,10]++flat l))))):=by
 unfold o0;simp only[uv,AB,yz];rw[iB,ft,lQ,ft,dQ,oC,ec,dQ,oC];rfl
def IM(x:bq)(l:List bQ):flat (oX x++l)=sD++([32]++(flat (dw x)++([59,10]++flat l))):=by
 unfold oX;simp only[uv,AB,yz];rw[iB,ft,ec,dQ,oC];rfl
def Bk{x:dB}(h:lL x):(flat (o0 x)).length<=400:=by
 have a:=Bi x.fields h.f;have c:=gR h.n;have d:=h.l;have:=IN x [];rw[ef,dV,ef]at this;rw[this];simp only[de,gh,ij,sE];omega
def Bj{x:bq}(h:fd x):(flat (oX x)).length<=60:=by
 have a:=oM h;have:=IM x [];rw[ef,dV,ef]at this;rw[this];simp only[de,gh,ij,sD];omega
def RE(x:dB)(l:List dO):flat (bZ (.r x::l))=sE++([32]++(x.name++([32,123,10]++(flat (ik x.fields)++([125,10]++flat (bZ l)))))):=by
 rw[bZ,gS,IN]
def RD(x:bq)(l:List dO):flat (bZ (.g x::l))=sD++([32]++(flat (dw x)++([59,10]++flat (bZ l)))):=by
 rw[bZ,gS,IM]
def J_{N:Nat}(S:1000<=N){r w K e:Nat}{aQ:Option Nat}{av:Bool}{els:List (List aa)}{gv fv:aa}{H0:ad}{ok:Nat->Prop}{l:List dB}(o:H0.get r=I (.row X 3 [[.ax w K e 3 aQ,gv,fv]]))(q:H0.get w=I (.row av 3 els))(ak:∀(j:Nat) (a:dB),l[j]? =I a->∃cs,els[K+j]? =I cs/\dq.V H0 ok a cs)(am:l.length=e)(F:∀x∈l,lL x)(an:e<=100){Q:aa->ad->Prop}:
  ∀(c j k:Nat) (acc:ay) (H:ad),j+c=e->c<k->acc.length+1000*c<=100000000000->aw H0 H->(∀H',aw H0 H'->W (kz (al P aj) N (.ptr r 0 0) (Z (acc++flat (bZ ((l.drop j).map .r)))) H') Q)->
  W (lp (al P aj) N k (.ptr r 0 0) (Z acc) (J U j) H) Q
 |_,_,0,_,_,_,C,_,_,_=>ae
 |0,j,k+1,acc,H,af,C,T,d,i=>by
  have p:¬((j:Int)<(e:Int)):=ae;have bf:=d.get o;simp(disch:=try exact ah)only[lp,rF,ai,bf,p,decide_false];have d1:l.drop j=[]:=jk ae;have:=i H d;rw[d1,BC,bZ,dV,ef]at this;exact this
 |c+1,j,k+1,acc,H,af,C,T,d,i=>by
  have B:j<l.length:=ae;have p:(j:Int)<(e:Int):=ae;have E:((j:Int)).toNat=j:=ae;have az:IntKind.i64.wrap ((j:Int)+1)=((j+1:Nat):Int):=by rw[wrap_i64 ae ae];omega
  obtain⟨cs,aX,v,rfl,au⟩:=ak j l[j] (cd B);have O:l.drop j=l[j]::l.drop (j+1):=fg B;have m:=F l[j] (kl _);rw[O,zA,RE]at i;generalize l[j]=x at aX m i au;have aG:=gR m.n;have aF:=Bi x.fields m.f;have aD:=m.l;have bf:=d.get o;have y:=d.get q;simp(disch:=try exact dz)only[lp,rF,ai,bf,y,E,p,decide_true,aX,cJ];have fin:∀H',aw H0 H'->W (nA (al P aj) N (lp (al P aj) N k) (.ptr r 0 0) (Z (acc++[114,101,99,111,114,100,32]++x.name++[32,123,10]++flat (ik x.fields))) (J U j) H') Q:=by
   intro H' s;simp(disch:=try exact dz)only[nA,nz,aR,b8,cJ,az];refine J_ S o q ak am F an c (j+1) k _ H' ae ae (by simp only[de,gh,ij];omega) s λL ar=> ?_
   have:=i L ar;simpa [sE]using this
  by_cases G:x.fields.length=0
  ·have ao:=hi.1 G;have z:=λH'=>au.hY H'
   rw[ao]at z fin;have R:¬((0:Int)<((0:Nat):Int)):=ae;obtain⟨M,rfl⟩:∃M,N=M+1:=⟨N-1,ae⟩;simp(disch:=try exact dz)only[l8,rG,ai,bf,y,E,aX,z,R,decide_false];have:=fin H d;rw[ik,dV,ef]at this;exact this
  ·obtain⟨aA,i2,aB,aH,aC,rfl,A,ab⟩:=au.row G;have aq:cQ.esz=4:=rfl;rw[aq]at aX A;exact Ka ae o q aX A (λj a h=>by obtain⟨cs,ap,aE⟩:=ab j a h;exact⟨cs,ap,aE⟩) rfl m.f ⟨ae,ae⟩ x.fields.length 0 N _ H ae ae (by simp only[de,gh,ij];omega) d λH' s=>by
    rw[CD];exact fin H' s
def J9{N:Nat}{r o y d:Nat}{aQ:Option Nat}{O:Bool}{els:List (List aa)}{rv fv:aa}{H0:ad}{l:List bq}(m:H0.get r=I (.row X 3 [[rv,.ax o y d 4 aQ,fv]]))(q:H0.get o=I (.row O 4 els))(ak:∀(j:Nat) (a:bq),l[j]? =I a->∃cs,els[y+j]? =I cs/\cs=a.cells)(G:l.length=d)(w:∀x∈l,fd x)(K:d<=100){Q:aa->ad->Prop}:
  ∀(c j k:Nat) (acc:ay) (H:ad),j+c=d->c<k->acc.length+1000*c<=100000000000->aw H0 H->(∀H',aw H0 H'->W (ny (al P aj) N (.ptr r 0 0) (Z (acc++flat (bZ ((l.drop j).map .g)))) H') Q)->
  W (l7 (al P aj) N k (.ptr r 0 0) (Z acc) (J U j) H) Q
 |_,_,0,_,_,_,v,_,_,_=>ae
 |0,j,k+1,acc,H,F,v,E,e,h=>by
  have i:¬((j:Int)<(d:Int)):=ae;have bf:=e.get m;simp(disch:=try exact ah)only[l7,rE,ai,bf,i,decide_false];have d1:l.drop j=[]:=jk ae;have:=h H e;rw[d1,BC,bZ,dV,ef]at this;exact this
 |c+1,j,k+1,acc,H,F,v,E,e,h=>by
  have s:j<l.length:=ae;have i:(j:Int)<(d:Int):=ae;have L:((j:Int)).toNat=j:=ae;have R:IntKind.i64.wrap ((j:Int)+1)=((j+1:Nat):Int):=by rw[wrap_i64 ae ae];omega
  obtain⟨cs,aX,rfl⟩:=ak j l[j] (cd s);have B:l.drop j=l[j]::l.drop (j+1):=fg s;have n:=w l[j] (kl _);rw[B,zA,RD]at h;generalize l[j]=x at aX n h;have S:=oM n;have bf:=e.get m;have C:=e.get q;have p:=BQ (H:=H) n;simp only[bq.cells]at aX p;simp(disch:=try exact dz)only[l7,rE,ai,bf,C,L,i,decide_true,aX,cJ];refine aA p ?_;rintro _ A ⟨rfl,z⟩;refine⟨z.1,?_⟩;simp(disch:=try exact dz)only[aR,b8,cJ,R];refine J9 m q ak G w K c (j+1) k _ A ae ae (by simp only[de,gh,ij];omega) (e.trans z) λH' M=> ?_
  have:=h H' M;simpa [sD]using this
def Kh{N:Nat}{m:aa->aa->aa->ad->O}{r:Nat}{y w:aa}{x i2 d:Nat}{R:Option Nat}{aq:Bool}{z:List (List aa)}{a0 a2 a3 a4 a5 M:aa}{H0:ad}{l:List bq}(s:H0.get r=I (.row X 7 [[a0,.ax x i2 d 4 R,a2,a3,a4,a5,M]]))(C:H0.get x=I (.row aq 4 z))(ak:∀(j:Nat) (a:bq),l[j]? =I a->∃cs,z[i2+j]? =I cs/\cs=a.cells)(am:l.length=d)(G:∀p∈l,fd p)(an:d<=1000){Q:aa->ad->Prop}:
  ∀(c j k:Nat) (acc:ay) (H:ad),j+c=d->c<k->acc.length+100*c<=1000000000000->aw H0 H->(∀H',aw H0 H'->W (kA (al P aj) N m y (Z (acc++flat (bif j==0 then hk (l.drop j)else jy (l.drop j)))) w (.ptr r 0 0) H') Q)->
  W (kC (al P aj) N m k y (Z acc) w (.ptr r 0 0) (J U j) H) Q
 |_,_,0,_,_,_,F,_,_,_=>ae
 |0,j,k+1,acc,H,V,F,T,e,h=>by
  have o:¬((j:Int)<(d:Int)):=ae;have bf:=e.get s;simp(disch:=try exact ah)only[kC,pi,ai,bf,o,decide_false];have d1:l.drop j=[]:=jk ae;have:=h H e;rw[d1,hk,jy,Bool.cond_self,dV,ef]at this;exact this
 |c+1,j,k+1,acc,H,V,F,T,e,h=>by
  have E:j<l.length:=ae;have o:(j:Int)<(d:Int):=ae;have ao:((j:Int)).toNat=j:=ae;have ar:IntKind.i64.wrap ((j:Int)+1)=((j+1:Nat):Int):=by rw[wrap_i64 ae ae];omega
  obtain⟨cs,aX,rfl⟩:=ak j l[j] (cd E);have S:l.drop j=l[j]::l.drop (j+1):=fg E;have v:=G l[j] (kl _);rw[S]at h;generalize l[j]=p at aX v h;have av:=oM v;have bf:=e.get s;have f1:=e.get C;have B:=BQ (H:=H) v;simp only[bq.cells]at aX B;have fin:∀n:ay,n=acc++(bif j==0 then[]else[44,32])->W (pl (al P aj) N m (kC (al P aj) N m k) y (Z n) w (.ptr r 0 0) (J U j) H) Q:=by
   intro n A;have au:n.length<=acc.length+2:=by rw[A];cases j==0<;>simp
   simp(disch:=try exact dz)only[pl,ai,bf,f1,ao,aX];refine aA B ?_;rintro _ L ⟨rfl,K⟩;refine⟨K.1,?_⟩;simp(disch:=try exact dz)only[pk,aR,b8,cJ,ar];refine Kh s C ak am G an c (j+1) k _ L ae ae (by simp only[de];omega) (e.trans K) λH' ap=> ?_
   have:=h H' ap;have ab:(j+1==0)=false:=by simp
   rw[ab,aH,A];cases i:j==0 with
   |true=>
    rw[i,aK,hk,ec]at this;simpa using this
   |false=>
    rw[i,aH,jy,dQ,ft,ec]at this;simpa using this
  by_cases i:j=0
  ·subst i;have q:¬((0:Int)<((0:Nat):Int)):=ae;simp(disch:=try exact dz)only[kC,pi,ai,bf,o,q,decide_true,decide_false];exact fin acc (by simp)
  ·have q:(0:Int)<(j:Int):=ae;have af:(j==0)=false:=by simpa using i
   simp(disch:=try exact dz)only[kC,pi,ai,bf,o,q,decide_true,cJ];exact fin _ (by rw[af];rfl)
def JC:∀l:List bq,(∀p∈l,fd p)->(flat (jy l)).length<=44*l.length
 |[],_=>by simp[jy,flat]
 |p::r,h=>by
  have c:=oM (h p (by simp));have d:=JC r λx a=>h x (tu _ a)
  rw[jy,dW,fN,dr];simp only[gh,ij];omega
def JB(l:List bq)(h:∀p∈l,fd p):(flat (hk l)).length<=44*l.length:=by
 cases l with
 |nil=>simp[hk,flat]
 |cons p r=>
  have c:=oM (h p (by simp));have d:=JC r λx a=>h x (tu _ a)
  rw[hk,dr,gh];omega
def jB(f:Fn):ay:=bif f.has then[58,32]++flat (cR f.cm f.rd)else[]
def IL(f:Fn)(l:List bQ):flat (oW f++l)=n9++([32]++(f.name++([40]++(flat (hk f.params)++([41]++(jB f++([32,123,10]++(flat (bN 1 f.body)++([125,10]++flat l))))))))):=by
 unfold oW;simp only[uv,AB,yz];rw[iB,ft,lQ,dQ,ec,dQ];have e:∀m,flat ((bif f.has then bp [58]::b9::cR f.cm f.rd else[])++m)=jB f++flat m:=by
  intro m;unfold jB;cases f.has
  ·rfl
  ·rw[aK,aK,uv,uv,dQ,ft,ec];simp
 rw[e];have:=s7 [] (bN 1 f.body) (nl::l);rw[this,oC];simp
def RC(f:Fn)(l:List dO):flat (bZ (.f f::l))=n9++([32]++(f.name++([40]++(flat (hk f.params)++([41]++(jB f++([32,123,10]++(flat (bN 1 f.body)++([125,10]++flat (bZ l)))))))))):=by
 rw[bZ,gS,IL]
def Kb{N:Nat}(aJ:1000<=N){r R az q:Nat}{aQ:Option Nat}{aZ:Bool}{els:List (List aa)}{rv gv:aa}{H0:ad}{ok:Nat->Prop}{l:List Fn}(K:H0.get r=I (.row X 3 [[rv,gv,.ax R az q 7 aQ]]))(ab:H0.get R=I (.row aZ 7 els))(ak:∀(j:Nat) (a:Fn),l[j]? =I a->∃cs,els[az+j]? =I cs/\dh.V H0 ok a cs)(aP:l.length=q)(ao:∀x∈l,mT x/\dN x.body<=1000000000)(aS:q<=100):
  ∀(c j k:Nat) (acc:ay) (H:ad),j+c=q->c<k->acc.length+2000000000*c<=900000000000->aw H0 H->
  W (kB (al P aj) N k (.ptr r 0 0) (Z acc) (J U j) H) λv H'=>v= Z (acc++flat (bZ ((l.drop j).map .f)))/\aw H0 H'
 |_,_,0,_,_,_,an,_,_=>ae
 |0,j,k+1,acc,H,aO,an,aL,w=>by
  have G:¬((j:Int)<(q:Int)):=ae;have bf:=w.get K;simp(disch:=try exact ah)only[kB,rH,jC,ai,bf,G,decide_false];have d1:l.drop j=[]:=jk ae;exact aD.2 ⟨by rw[d1,BC,bZ,dV,ef],w⟩
 |c+1,j,k+1,acc,H,aO,an,aL,w=>by
  have am:j<l.length:=ae;have G:(j:Int)<(q:Int):=ae;have aT:((j:Int)).toNat=j:=ae;have a0:IntKind.i64.wrap ((j:Int)+1)=((j+1:Nat):Int):=by rw[wrap_i64 ae ae];omega
  obtain⟨cs,aX,B,m,rfl,au,L⟩:=ak j l[j] (cd am);have aF:l.drop j=l[j]::l.drop (j+1):=fg am;obtain⟨e,aV⟩:=ao l[j] (kl _);rw[aF,zA,RC];generalize l[j]=x at aX e aV au L ⊢;have bg:=gR e.n;have bb:=JB x.params e.p;have a6:=e.l;obtain⟨d,a9,aq⟩:=e.b;have a8:=th (deep:=1) aq ae;have bc:(flat (cR x.cm x.rd)).length<=20:=by
   rw[lU];rcases e.r with⟨_,h⟩|⟨_,h,aU⟩
   ·have:=iU h;have:=h.2.1;omega
   ·rw[h,aU];simp
  have bf:=w.get K;have aG:=w.get ab;have br:=au.one;have bI:=L.db;have E:=w.a1 (.row X 7 [[Z x.name,B,D x.has,Z x.cm,J U x.rd,m,J U x.pos]]);have y:=ad.a_ H (.row X 7 [[Z x.name,B,D x.has,Z x.cm,J U x.rd,m,J U x.pos]]);have ba:(H.push (.row X 7 [[Z [],.ag,D X,Z [],J U 0,.ag,J U 0]])).set H.next (.row X 7 [[Z x.name,B,D x.has,Z x.cm,J U x.rd,m,J U x.pos]])=H.push (.row X 7 [[Z x.name,B,D x.has,Z x.cm,J U x.rd,m,J U x.pos]]):=ad.hG H _ _
  simp(disch:=try exact dz)only[kB,rH,mn,ai,bf,aG,aT,G,decide_true,aX,br,bI,y,cJ];have fin:∀H',aw (H.push (.row X 7 [[Z x.name,B,D x.has,Z x.cm,J U x.rd,m,J U x.pos]])) H'->W (kA (al P aj) N (kB (al P aj) N k) (.ptr r 0 0) (Z (acc++[102,117,110,99,32]++x.name++[40]++flat (hk x.params))) (J U j) (.ptr H.next 0 0) H') λv F=>v= Z (acc++(n9++([32]++(x.name++([40]++(flat (hk x.params)++([41]++(jB x++([32,123,10]++(flat (bN 1 x.body)++([125,10]++flat (bZ ((l.drop (j+1)).map .f)))))))))))))/\aw H0 F:=by
   intro H' A;have z:=A.get y;have f6:∀i (C:ay),aw H' i->C=acc++[102,117,110,99,32]++x.name++[40]++flat (hk x.params)++[41]++jB x->W (pj (al P aj) N (kB (al P aj) N k) (.ptr r 0 0) (Z C) (J U j) (.ptr H.next 0 0) i) λv F=>v= Z (acc++(n9++([32]++(x.name++([40]++(flat (hk x.params)++([41]++(jB x++([32,123,10]++(flat (bN 1 x.body)++([125,10]++flat (bZ ((l.drop (j+1)).map .f)))))))))))))/\aw H0 F:=by
    intro i C s S;have bd:(jB x).length<=22:=by
     unfold jB;cases x.has
     ·simp
     ·simp only[aK,de,gh,ij];omega
    have a7:C.length<=acc.length+400:=by rw[S];simp only[de,gh,ij];omega
    have aH:=s.get z;simp(disch:=try exact dz)only[pj,ai,aH,cJ];refine aA (abi x.body d 1 aq ae ae i ok m _ rfl (L.av (E.trans (A.trans s)))) ?_;rintro _ aC ⟨rfl,aB⟩;refine⟨aB.1,?_⟩;simp(disch:=try exact dz)only[j1,aR,b8,cJ,a0];refine(Kb aJ K ab ak aP ao aS c (j+1) k _ aC ae ae (by simp only[de,gh,ij];omega) (E.trans ((A.trans s).trans aB))).mono ?_;rintro v a2 ⟨rfl,aY⟩;exact⟨by rw[S];simp[n9],aY⟩
   cases o:x.has with
   |true=>
    have O:hb x.cm x.rd:=by
     rcases e.r with⟨_,h⟩|⟨h,_⟩
     ·exact h
     ·rw[h]at o;cases o
    have Q:=O.2.1;have be:=iU O;rw[o]at z;simp(disch:=try exact dz)only[kA,mn,vw,ai,z,cJ];refine aA (sC O.1 ae ae) ?_;rintro _ i ⟨rfl,s⟩;refine⟨s.1,?_⟩;simp(disch:=try exact dz)only[aR,cJ];refine f6 i _ s ?_;unfold jB;rw[o];simp
   |false=>
    rw[o]at z;simp(disch:=try exact dz)only[kA,ai,z,cJ];refine f6 H' _ (.refl _) ?_;unfold jB;rw[o];simp
  by_cases Q:x.params.length=0
  ·have ar:=hi.1 Q;have T:=λH'=>au.hY H'
   rw[ar]at T fin;have aI:¬((0:Int)<((0:Nat):Int)):=ae;obtain⟨M,rfl⟩:∃M,N=M+1:=⟨N-1,ae⟩;simp(disch:=try exact dz)only[kC,pi,ai,y,T,aI,decide_false];have:=fin _ (.refl _);rw[hk,dV,ef]at this;rw[ar,hk,dV];exact this
  ·obtain⟨a3,i2,a4,bh,a5,rfl,af,aM⟩:=au.row Q;have aW:cQ.esz=4:=rfl;rw[aW]at y af E fin ⊢;have aN:=E.get af;exact Kh y aN (λj a h=>by obtain⟨cs,ap,aE⟩:=aM j a h;exact⟨cs,ap,aE⟩) rfl e.p ae x.params.length 0 N _ _ ae ae (by simp only[de,gh,ij];omega) (.refl _) λH' A=>by
    rw[CD];exact fin H' A
def wb:∀a b:List dO,bZ (a++b)=bZ a++bZ b
 |[],_=>rfl
 |i::a,b=>by rw[uv,bZ,wb a b,bZ,AB]
def JA:∀l:List dB,(∀x∈l,lL x)->(flat (bZ (l.map dO.r))).length<=400*l.length
 |[],_=>by simp[bZ,flat]
 |x::r,h=>by
  have c:=Bk (h x (by simp));have d:=JA r λx a=>h x (tu _ a)
  rw[zA,bZ,dr,gh,gS];omega
def Jz:∀l:List bq,(∀x∈l,fd x)->(flat (bZ (l.map dO.g))).length<=60*l.length
 |[],_=>by simp[bZ,flat]
 |x::r,h=>by
  have c:=Bj (h x (by simp));have d:=Jz r λx a=>h x (tu _ a)
  rw[zA,bZ,dr,gh,gS];omega
def rc(g:bw):List bQ:=bZ (g.bJ.map .r++(g.globals.map .g++g.funcs.map .f))
structure jd(g:bw):Prop where
 lk:∀x∈g.bJ,lL x
 fM:∀x∈g.globals,fd x
 eb:∀x∈g.funcs,mT x/\dN x.body<=1000000000
 fF:g.bJ.length<=100
 jv:g.globals.length<=100
 lV:g.funcs.length<=100
section
variable {H0:ad}{ok:Nat->Prop}{r:Nat}{rv gv fv:aa}{g:bw}
def IW(a:H0.get r=I (.row X 3 [[rv,gv,fv]]))(j:cf dh H0 ok g.funcs fv)(c:jd g){H:ad}(d:aw H0 H){acc:ay}(p:acc.length<=100000000000):
  W (ny (al P aj) 1000 (.ptr r 0 0) (Z acc) H) λv H'=>v= Z (acc++flat (bZ (g.funcs.map .f)))/\aw H0 H':=by
 rw[ny];have q:=c.lV;by_cases k:g.funcs.length=0
 ·have l:=hi.1 k;have h:=λH'=>j.jW H'
  rw[l]at h;have m:¬((0:Int)<((0:Nat):Int)):=ae;have bf:=d.get a;simp only[kB,rH,jC,ai,bf,h,m,decide_false];exact aD.2 ⟨by rw[l,BC,bZ,dV,ef],d⟩
 ·obtain⟨L,i,cap,ro,els,rfl,e,n⟩:=j.row k;have o:dh.esz=7:=rfl;rw[o]at a e;have:=Kb (N:=1000) ae a e n rfl c.eb c.lV g.funcs.length 0 1000 acc H ae ae ae d;rw[CD]at this;exact this
def IY(d:H0.get r=I (.row X 3 [[rv,gv,fv]]))(n:cf cQ H0 ok g.globals gv)(m:cf dh H0 ok g.funcs fv)(c:jd g){H:ad}(e:aw H0 H){acc:ay}(A:acc.length<=50000000000):
  W (kz (al P aj) 1000 (.ptr r 0 0) (Z acc) H) λv H'=>v= Z (acc++(flat (bZ (g.globals.map .g))++flat (bZ (g.funcs.map .f))))/\aw H0 H':=by
 rw[kz];have C:=c.jv;have B:=Jz _ c.fM;by_cases o:g.globals.length=0
 ·have p:=hi.1 o;have l:=λH'=>n.hY H'
  rw[p]at l;have q:¬((0:Int)<((0:Nat):Int)):=ae;have bf:=e.get d;simp only[l7,rE,ai,bf,l,q,decide_false];rw[p,BC,bZ,dV,yz];exact IW d m c e ae
 ·obtain⟨L,i,cap,ro,els,rfl,k,s⟩:=n.row o;have w:cQ.esz=4:=rfl;rw[w]at d k;refine J9 (N:=1000) d k (λj a h=>by obtain⟨cs,ap,aE⟩:=s j a h;exact⟨cs,ap,aE⟩) rfl c.fM c.jv g.globals.length 0 1000 acc H ae ae ae e λH' x=> ?_
  rw[CD];refine(IW d m c x (by simp only[de];omega)).mono ?_;rintro v z ⟨rfl,y⟩;exact⟨by rw[AB],y⟩
end
def B2{H:ad}{ok:Nat->Prop}{rv gv fv:aa}{g:bw}(s:cf dq H ok g.bJ rv)(q:cf cQ H ok g.globals gv)(p:cf dh H ok g.funcs fv)(c:jd g):W (al P aj 13 [.agg [rv,gv,fv]] H) λv H'=>v= Z (flat (rc g))/\aw H H':=by
 refine bt (λ_=>VI 1000) ?_;have br:=s.one;have bI:=q.one;have b2:=p.one;have B:∀l,cg l (.agg [rv,gv,fv])=I (.ptr l 0 0,.row X 3 [[rv,gv,fv]]):=λl=>ei l _ (by simp only[KL,NO,br,bI,b2,LM])
 have d:=aw.push H (.row X 3 [[rv,gv,fv]]);have a:=ad.a_ H (.row X 3 [[rv,gv,fv]]);have k:=s.aP (ce.av d);have j:=q.aP (ce.av d);have h:=p.aP (ce.av d);rw[w8];simp only[aR,B];have F:=c.fF;have G:=JA _ c.lk;have e:flat (rc g)=flat (bZ (g.bJ.map .r))++(flat (bZ (g.globals.map .g))++flat (bZ (g.funcs.map .f))):=by
  unfold rc;rw[wb,wb,ec,ec]
 rw[e];generalize H.push (.row X 3 [[rv,gv,fv]])=H1 at d a k j h ⊢;by_cases w:g.bJ.length=0
 ·have x:=hi.1 w;have o:=λH'=>k.jV H'
  rw[x]at o;have z:¬((0:Int)<((0:Nat):Int)):=ae;simp only[lp,rF,ai,a,o,z,decide_false];rw[x,BC,bZ,dV,yz];refine(IY a j h c (.refl _) (acc:=[]) (by simp)).mono ?_;rintro v y ⟨rfl,m⟩;exact⟨rfl,d.trans m⟩
 ·obtain⟨L,i,cap,ro,els,rfl,n,A⟩:=k.row w;have C:dq.esz=3:=rfl;rw[C]at a n;have key:=J_ (N:=1000) ae a n A rfl c.lk c.fF (Q:=λv H'=>v= Z (flat (bZ (g.bJ.map .r))++(flat (bZ (g.globals.map .g))++flat (bZ (g.funcs.map .f))))/\aw H H') g.bJ.length 0 1000 [] H1 ae ae (by simp only[ij];omega) (.refl _) λH' E=>by
   rw[CD,yz];refine(IY a j h c E ae).mono ?_;rintro v y ⟨rfl,m⟩;exact⟨rfl,d.trans m⟩
  exact key
section
set_option maxRecDepth 100000
noncomputable section
end
end
section
set_option maxRecDepth 100000
noncomputable section
end
end
def LG(s:ay):∃p q:bw×am,((c7 s).2.1=0->h2 (c7 s).1 800000000 800000000 .none ⟨0,0,0,0⟩=I p)/\((c7 s).2.1=0->ek (c7 s).1 800000000 800000000 .none ⟨0,0,0,0⟩=I q)/\fb s p.1 p.2=fb s q.1 q.2/\qh (fb s p.1 p.2).1:=by
 by_cases a:(c7 s).2.1=0
 ·obtain⟨ar,d⟩:=zc a;obtain⟨p,q,c,e,i⟩:=UB ar d;have j:=rk ae 800000000 .none ⟨0,0,0,0⟩ p wh (by simp[bw.none]) (by simp[bw.none]) (by simp[bw.none]) c;refine⟨p,q,λ_=>c,λ_=>e,?_,?_⟩
  ·unfold fb;rw[if_pos a,if_pos a,i]
  ·unfold fb lg;rw[if_pos a];split
   ·exact j
   ·exact wh
 ·refine⟨(.none,⟨0,0,0,0⟩),(.none,⟨0,0,0,0⟩),λh=>absurd h a,λh=>absurd h a,rfl,?_⟩;unfold fb;rw[if_neg a];exact wh
mutual
def aaq:∀(a b:az),iY a.aN b.aN=iY a b
 | .mk a ks,.mk b c=>by
  rw[kg,kg,iY,iY,CZ ks c];rfl
def CZ:∀(a b:List az),eX (ep a) (ep b)=eX a b
 |[],[]=>rfl
 |[],_::_=>rfl
 |_::_,[]=>rfl
 |a::xs,b::c=>by rw[ep,ep,eX,eX,aaq a b,CZ xs c]
end
mutual
def aaw:∀(a b:a6),iZ a.aN b.aN=iZ a b
 | .mk a es b c,.mk bj es' cN c'=>by
  rw[hp,hp,iZ,iZ,CZ es es',y3 b cN,y3 c c'];rfl
def y3:∀(a b:List a6),eB (eN a) (eN b)=eB a b
 |[],[]=>rfl
 |[],_::_=>rfl
 |_::_,[]=>rfl
 |a::xs,b::c=>by rw[eN,eN,eB,eB,aaw a b,y3 xs c]
end
def qB{c:Type}{f:c->c->Bool}{g:c->c}(h:∀a b,f (g a) (g b)=f a b):∀(l m:List c),dl f (l.map g) (m.map g)=dl f l m
 |[],[]=>rfl
 |[],_::_=>rfl
 |_::_,[]=>rfl
 |a::xs,b::d=>by rw[zA,zA,dl,dl,h a b,qB h xs d]
def C3(a b:bq):fm a.aN b.aN=fm a b:=rfl
def aaA(a b:dB):gL a.aN b.aN=gL a b:=by
 unfold gL dB.aN;rw[qB C3]
def aas(a b:Fn):h4 a.aN b.aN=h4 a b:=by
 unfold h4 Fn.aN;simp only[qB C3,y3]
def aaz(a b:bw):jE a.aN b.aN=jE a b:=by
 unfold jE bw.aN;simp only[qB C3,qB aaA,qB aas]
def aay{a b:bw}(h:a.aN=b.aN):jE a b=true:=by
 rw[<-aaz,h];exact MC _
def UA{s:ay}{g:bw}{z:am}(h:(fb s g z).2.1=0)(a:(c7 s).2.1=0\/(c7 s).2.1≠0):(c7 s).2.1=0/\z.an=0/\fb s g z=(g,0,0):=by
 unfold fb at h ⊢;by_cases c:(c7 s).2.1=0
 ·rw[if_pos c]at h ⊢;unfold lg at h ⊢;by_cases a:z.an=0
  ·rw[if_pos a];exact⟨c,a,rfl⟩
  ·rw[if_neg a]at h;exact absurd h a
 ·rw[if_neg c]at h;exact absurd h c
def ab2{s:ay}(c:(c7 s).2.1=0){q:bw×am}(n:ek (c7 s).1 800000000 800000000 .none ⟨0,0,0,0⟩=I q)(o:q.2.an=0):jd q.1/\q.1.bJ.length<=12/\q.1.globals.length<=8/\q.1.funcs.length<=16:=by
 obtain⟨ar,v⟩:=zc c;have ak:=Dw s;have z:s.length<=6000:=by
  unfold c7 at c;split at c
  ·simp at c
  ·omega
 have B:(c7 s).1.length<=6001:=ae;have d:Good (c7 s).1 ((c7 s).1.length:Int):=⟨ae,λa h=>(Dv h).2.1,λt aq=>NP t aq⟩;have i:g_ (c7 s).1:=vi ae;obtain⟨G,A⟩:=rj d i 800000000 800000000 .none ⟨0,0,0,0⟩ q (λ_=>⟨by simp,by simp,by simp,by simp⟩) (λ_=>⟨(λx h=>by cases h),(λx h=>by cases h),(λx h=>by cases h),by simp[bw.none],by simp[bw.none],by simp[bw.none],by simp[bw.none,mE]⟩) n o;have C:=G.w;have key:∀l:List Fn,∀x∈l,dN x.body<=mE l:=by
  intro l
  induction l with
  |nil=>intro x h;cases h
  |cons y r p=>
   intro x h;have e:mE (y::r)=dN y.body+mE r:=by simp[mE]
   rcases List.mem_cons.1 h with rfl|h
   ·omega
   ·have:=p x h;omega
 have m:=G.fF;have k:=G.jv;have j:=G.lV;exact⟨⟨G.lk,G.fM,λx h=>⟨G.eb x h,by have:=key _ x h;omega⟩,ae,ae,ae⟩,m,k,j⟩
structure dd where
 r:Nat
 g:Nat
 h:Nat
 l:List dO
section
variable (G:bw)(K:Nat->Int)
def dd.more(s:dd):Bool:=HI s.r G.bJ.length||(HI s.g G.globals.length||HI s.h G.funcs.length)
def dd.step(k:Int)(s:dd):dd:=
 if k=0/\s.r<G.bJ.length then {s with r:=s.r+1,l:=s.l++(G.bJ[s.r]?.map dO.r).toList}
 else if k=1/\s.g<G.globals.length then {s with g:=s.g+1,l:=s.l++(G.globals[s.g]?.map dO.g).toList}
 else if k=2/\s.h<G.funcs.length then {s with h:=s.h+1,l:=s.l++(G.funcs[s.h]?.map dO.f).toList}
 else s
def runT:Nat->Nat->dd->Option dd
 |0,_,_=>u
 |n+1,i,s=>bif s.more G then runT n (i+1) (s.step G (K i))else I s
def dd.rem(s:dd):Nat:=(G.bJ.length-s.r)+((G.globals.length-s.g)+(G.funcs.length-s.h))
def Nb(k:Int)(s:dd):(s.step G k).rem G<=s.rem G/\((s.step G k).rem G=s.rem G->s.step G k=s):=by
 unfold dd.step;split
 ·rename_i h;unfold dd.rem;simp only;omega
 ·split
  ·rename_i h;unfold dd.rem;simp only;omega
  ·split
   ·rename_i h;unfold dd.rem;simp only;omega
   ·exact⟨aV _,λ_=>rfl⟩
def dd.has(s:dd)(c:Nat):Prop:=(c=0/\s.r<G.bJ.length)\/(c=1/\s.g<G.globals.length)\/(c=2/\s.h<G.funcs.length)
def KA{s:dd}(h:s.more G=Y):∃c,c<3/\s.has G c:=by
 unfold dd.more at h;simp only[Bool.or_eq_true,MN]at h;rcases h with h|h|h
 ·exact⟨0,ae,.inl ⟨rfl,h⟩⟩
 ·exact⟨1,ae,.inr (.inl ⟨rfl,h⟩)⟩
 ·exact⟨2,ae,.inr (.inr ⟨rfl,h⟩)⟩
def IZ{s:dd}{c:Nat}(h:s.has G c):(s.step G (c:Int)).rem G<s.rem G:=by
 unfold dd.step dd.rem;rcases h with⟨rfl,h⟩|⟨rfl,h⟩|⟨rfl,h⟩
 ·rw[if_pos ⟨rfl,h⟩];simp only;omega
 ·rw[if_neg (by rintro⟨h,_⟩;cases h),if_pos ⟨rfl,h⟩];simp only;omega
 ·rw[if_neg (by rintro⟨h,_⟩;cases h),if_neg (by rintro⟨h,_⟩;cases h),if_pos ⟨rfl,h⟩];simp only;omega
def XH{m:Nat}(w:∀i,m<=i->K i=((i%3:Nat):Int)):∀(V i:Nat) (s:dd),m<=i->s.rem G<=V->∃s',runT G K (3*V+4) i s=I s':=by
 intro V
 induction V with
 |zero=>
  intro i s l o;refine⟨s,?_⟩;have:s.more G=false:=by
   cases a:s.more G with
   |false=>rfl
   |true=>
    obtain⟨c,_,e⟩:=KA G a;have:=IZ G e;omega
  rw[runT,this,aH]
 |succ V q=>
  intro i s l o;have mono:∀(n i:Nat) (s s':dd),runT G K n i s=I s'->∀k,runT G K (n+k) i s=I s':=by
   intro n
   induction n with
   |zero=>intro i s s' h;cases h
   |succ n A=>
    intro i s s' h k;rw[Nat.add_right_comm,runT];rw[runT]at h;cases a:s.more G with
    |false=>rw[a,aH]at h;rw[aH];exact h
    |true=>rw[a,aK]at h;rw[aK];exact A _ _ _ h k
  have key:∀(d i:Nat) (s:dd),m<=i->s.rem G<=V+1->(∃c,c<3/\s.has G c/\(i+d)%3=c)->∃s',runT G K (d+1+(3*V+4)) i s=I s':=by
   intro d
   induction d with
   |zero=>
    rintro i s l o ⟨c,e,j,p⟩;have y:K i=(c:Int):=by rw[w i l];rw[Nat.add_zero]at p;rw[p]
    have C:=IZ G j;obtain⟨s',aU⟩:=q (i+1) (s.step G (K i)) ae (by rw[y];omega);rw[show 0+1+(3*V+4)=(3*V+4)+1 by omega,runT];cases a:s.more G with
    |false=>exact⟨s,rfl⟩
    |true=>rw[aK];exact⟨s',aU⟩
   |succ d z=>
    rintro i s l o ⟨c,e,j,p⟩;rw[show d+1+1+(3*V+4)=(d+1+(3*V+4))+1 by omega,runT];cases a:s.more G with
    |false=>exact⟨s,rfl⟩
    |true=>
     rw[aK];obtain⟨B,v⟩:=Nb G (K i) s;by_cases x:(s.step G (K i)).rem G=s.rem G
     ·rw[v x];exact z (i+1) s ae o ⟨c,e,j,by rw[<-p];congr 1;omega⟩
     ·obtain⟨s',aU⟩:=q (i+1) (s.step G (K i)) ae ae;exact⟨s',by rw[Nat.add_comm];exact mono _ _ _ _ aU _⟩
  cases a:s.more G with
  |false=>
   refine⟨s,?_⟩;rw[show 3*(V+1)+4=(3*V+6)+1 by omega,runT,a,aH]
  |true=>
   obtain⟨c,e,j⟩:=KA G a;obtain⟨s',aU⟩:=key ((c+3-i%3)%3) i s l o ⟨c,e,j,ae⟩;have:=mono _ _ _ _ aU (3*(V+1)+4-((c+3-i%3)%3+1+(3*V+4)));rw[show(c+3-i%3)%3+1+(3*V+4)+(3*(V+1)+4-((c+3-i%3)%3+1+(3*V+4)))=3*(V+1)+4 by omega]at this;exact⟨s',this⟩
def Mu{m:Nat}(a:∀i,m<=i->K i=((i%3:Nat):Int)):∀(c i V:Nat) (s:dd),m<=i+c->s.rem G<=V->∃s',runT G K (c+(3*V+4)) i s=I s'
 |0,i,V,s,e,d=>by rw[Nat.zero_add];exact XH G K a V i s ae d
 |c+1,i,V,s,e,d=>by
  rw[show c+1+(3*V+4)=(c+(3*V+4))+1 by omega,runT];cases h:s.more G with
  |false=>exact⟨s,rfl⟩
  |true=>
   rw[aK];have:=(Nb G (K i) s).1;exact Mu a c (i+1) V _ ae ae
structure dd.kT(s:dd):Prop where
 r:s.r<=G.bJ.length
 g:s.g<=G.globals.length
 h:s.h<=G.funcs.length
 e:bw.none.fU s.l=⟨G.bJ.take s.r,G.globals.take s.g,G.funcs.take s.h⟩
 n:s.l.length=s.r+(s.g+s.h)
 i:∀x∈s.l,(∃y∈G.bJ,x= .r y)\/(∃y∈G.globals,x= .g y)\/∃y∈G.funcs,x= .f y
def vb:∀(l:List dO) (g:bw) (i:dO),g.fU (l++[i])=(g.fU l).add i
 |[],_,_=>rfl
 |x::l,g,i=>by rw[uv,bw.fU,vb l,bw.fU]
def Dq{a:Type}{l:List a}{n:Nat}(h:n<l.length):l.take n++[l[n]]=l.take (n+1):=(List.take_succ_eq_append_getElem h).symm
def abe{s:dd}(h:s.kT G)(k:Int):(s.step G k).kT G:=by
 unfold dd.step;split
 ·rename_i d;have c:=d.2;have ap:(G.bJ[s.r]?.map dO.r).toList=[dO.r G.bJ[s.r]]:=by rw[cd c];rfl
  refine⟨by simp only;omega,h.g,h.h,?_,?_,?_⟩
  ·simp only[ap,vb,h.e,bw.add,Dq c]
  ·simp only[ap,de,EF,h.n];omega
  ·intro x a;simp only[ap,IJ,GH]at a;rcases a with a|rfl
   ·exact h.i x a
   ·exact .inl ⟨_,kl c,rfl⟩
 ·split
  ·rename_i d;have c:=d.2;have ap:(G.globals[s.g]?.map dO.g).toList=[dO.g G.globals[s.g]]:=by rw[cd c];rfl
   refine⟨h.r,by simp only;omega,h.h,?_,?_,?_⟩
   ·simp only[ap,vb,h.e,bw.add,Dq c]
   ·simp only[ap,de,EF,h.n];omega
   ·intro x a;simp only[ap,IJ,GH]at a;rcases a with a|rfl
    ·exact h.i x a
    ·exact .inr (.inl ⟨_,kl c,rfl⟩)
  ·split
   ·rename_i d;have c:=d.2;have ap:(G.funcs[s.h]?.map dO.f).toList=[dO.f G.funcs[s.h]]:=by rw[cd c];rfl
    refine⟨h.r,h.g,by simp only;omega,?_,?_,?_⟩
    ·simp only[ap,vb,h.e,bw.add,Dq c]
    ·simp only[ap,de,EF,h.n];omega
    ·intro x a;simp only[ap,IJ,GH]at a;rcases a with a|rfl
     ·exact h.i x a
     ·exact .inr (.inr ⟨_,kl c,rfl⟩)
   ·exact h
def T3{s:dd}(h:s.kT G)(c:s.more G=X):bw.none.fU s.l=G:=by
 unfold dd.more at c;simp only[Bool.or_eq_false_iff]at c;have f:∀a b:Nat,HI a b=X->¬a<b:=λa b h d=>by
  have:HI a b=true:=by rw[MN];exact d
  rw[this]at h;cases h
 have i:=f _ _ c.1;have j:=f _ _ c.2.1;have k:=f _ _ c.2.2;rw[h.e,DE ae,DE ae,DE ae]
def ok_none:dd.kT G ⟨0,0,0,[]⟩:=⟨by simp,by simp,by simp,by simp[bw.fU,bw.none],rfl,λx h=>by cases h⟩
end
def Jy{f:Fn}(h:mT f)(j:dN f.body<=1000000000):(flat (oW f)).length<=1000001000:=by
 have c:=JB f.params h.p;have e:=gR h.n;have i:=h.l;obtain⟨d,m,a⟩:=h.b;have k:=th (deep:=1) a ae;have o:(flat (cR f.cm f.rd)).length<=20:=by
  rw[lU];rcases h.r with⟨_,h⟩|⟨_,h,aU⟩
  ·have:=iU h;have:=h.2.1;omega
  ·rw[h,aU];simp
 have q:(jB f).length<=22:=by
  unfold jB;cases f.has
  ·simp
  ·simp only[aK,de,gh,ij];omega
 have:=IL f [];rw[ef,dV,ef]at this;rw[this];simp only[de,gh,ij,n9];omega
def T4{G:bw}(d:jd G){s:dd}(h:s.kT G):(flat (bZ s.l)).length<=1000001000*s.l.length:=by
 have key:∀l:List dO,(∀x∈l,(∃y∈G.bJ,x= .r y)\/(∃y∈G.globals,x= .g y)\/∃y∈G.funcs,x= .f y)->(flat (bZ l)).length<=1000001000*l.length:=by
  intro l
  induction l with
  |nil=>intro _;simp[bZ,flat]
  |cons x r j=>
   intro e;have:=j λy c=>e y (tu _ c)
   have ak:(flat (gS x)).length<=1000001000:=by
    rcases e x (by simp)with⟨y,c,rfl⟩|⟨y,c,rfl⟩|⟨y,c,rfl⟩
    ·have:=Bk (d.lk y c);rw[gS];omega
    ·have:=Bj (d.fM y c);rw[gS];omega
    ·obtain⟨a,b⟩:=d.eb y c;rw[gS];exact Jy a b
   rw[bZ,dr,gh];omega
 exact key _ h.i
def K4{G:bw}(c:jd G){s:dd}(h:s.kT G):∀i∈s.l,qj i:=by
 intro i d;rcases h.i i d with⟨y,a,rfl⟩|⟨y,a,rfl⟩|⟨y,a,rfl⟩
 ·exact c.lk y a
 ·exact c.fM y a
 ·exact(c.eb y a).1
def aby{G:bw}(c:jd G)(d:G.bJ.length<=12)(i:G.globals.length<=8)(j:G.funcs.length<=16){s:dd}(h:s.kT G)(v:s.more G=X)(ak:(flat (bZ s.l)).length<=6000):
  ∃p:bw×am,((c7 (flat (bZ s.l))).2.1=0->h2 (c7 (flat (bZ s.l))).1 800000000 800000000 .none ⟨0,0,0,0⟩=I p)/\(fb (flat (bZ s.l)) p.1 p.2).2.1=0/\jE G (fb (flat (bZ s.l)) p.1 p.2).1=true:=by
 have a:=T3 G h v;obtain⟨p,q,w,y,m,-⟩:=LG (flat (bZ s.l));have x:=BW s.l (K4 c h);have o:iu (bZ s.l):=by have:=x.k [] trivial;rwa[ef]at this
 have aq:=NQ o ak;have n:(c7 (flat (bZ s.l))).2.1=0:=by rw[aq]
 have z:=Dw (flat (bZ s.l));obtain⟨aI,a2,a3⟩:=UJ (K4 c h) (by rw[a];exact d) (by rw[a];exact i) (by rw[a];exact j) ak (vi (by unfold dj;rw[List.length_map];omega)) (y n);refine⟨p,w,?_⟩;rw[m];have e:fb (flat (bZ s.l)) q.1 q.2=(q.1,0,0):=by
  unfold fb lg;rw[if_pos aI,if_pos a2]
 rw[e];refine⟨rfl,aay ?_⟩;rw[a3,a]
section
set_option maxRecDepth 100000
noncomputable section
def mg(G:e)(N:Nat)(ae o:aa)(H:ad):O:=bU P .len [9] [o] H λB=>C (w P .gtr 3 Y B (J U 6000)) λE=>aO (I E) (i H (G 12 [] H) λF c=>I (F,c)) (i H (G 8 [o] H) λs c=>C (dG s 0) λK=>C (dG s 1) λL=>bn c [aa.ag,aa.ag,aa.ag] λp y=>bn y [J U 0,J U 0] λv l=>aG l (aB P l 26 p K) λm=>aG m (aB P m 29 v L) λd=>C (j P 29 v 0) λM=>C (A P d 27 M) λQ=>C (w P .eql 27 Y Q (J U 0)) λa=>S a Y d (qr (A P d 26 ae)) λR n=>S a Y n (qr (A P n 26 p)) λT h=>S a Y h (λq=>cZ h (G 10 [R,T] h) q) λV k=>C (bC a (I V) (I (D X))) λx=>S x Y k (λq=>cZ k (G 12 [] k) q) λW z=>C (bC x (I W) (I (D X))) λab=>I (ab,z))
def Zt(G:e)(N:Nat):∀V H,a7 P G N (L (L (L (L (L (L (n Tryz.f4))))))) (p Tryz.f4) [] (p Tryz.f4) V H=mg G N (V 5) (V 10) H:=by
 refine bm (q _) λV H=> ?_
 delta mg;kernel_rfl
def io(G:e)(N:Nat)(a:aa->aa->aa->aa->aa->aa->aa->ad->O)(y i:aa)(j k:aa)(l c d:aa)(H:ad):O:=C (w P .add 3 Y d (J U 1)) λh=>a y i j k l c h H
def Zu(G:e)(N:Nat)(a:aa->aa->aa->aa->aa->aa->aa->ad->O):∀V H,a7 P G N (L (L (d (d (L (d (L (L (L (L (L (n Tryz.f4)))))))))))) (λV H=>a (V 1) (V 5) (V 7) (V 8) (V 9) (V 10) (V 11) H) [(0,(λV H=>mg G N (V 5) (V 10) H))] (p Tryz.f4) V H=io G N a (V 1) (V 5) (V 7) (V 8) (V 9) (V 10) (V 11) H:=by
 refine bm (q _) λV H=> ?_
 delta io;kernel_rfl
def ip(G:e)(N:Nat)(o:aa->aa->aa->aa->aa->aa->aa->ad->O)(y a:aa)(c d:aa)(h x:aa)(z F:aa)(H:ad):O:=C (w P .eql 3 Y F (J U 0)) λm=>S m Y H (bP c) λaE ae=>S m Y ae (k (j P 26 a 0)) λaF M=>S m Y M (qr (A P M 22 aF)) λW Q=>S m Y Q (λq=>et (bK P .empty .len [22] [W]) (bK P Q .len [22] [W]) q) λaG ai=>S m Y ai (k (w P .lss 3 X aE aG)) λaH v=>C (bC m (I aH) (I (D X))) λaI=>aO (I aI) (C (j P 26 a 0) λaJ=>C (A P v 22 aJ) λaK=>C (w P .add 3 Y c (J U 1)) λaL=>C (ff P 22 aK (I c) (I aL) u) λaM=>C (bA P 26 [(0,aM)]) λaN=>i v (G 13 [aN] v) λaP E=>C (w P .add 9 X x aP) λaQ=>C (w P .add 3 Y c (J U 1)) λaR=>io G N o y a aR d h aQ z E) (C (w P .eql 3 Y F (J U 1)) λn=>S n Y v (bP d) λaS E=>S n Y E (k (j P 26 a 1)) λaT R=>S n Y R (qr (A P R 23 aT)) λab T=>S n Y T (λq=>et (bK P .empty .len [23] [ab]) (bK P T .len [23] [ab]) q) λaU aj=>S n Y aj (k (w P .lss 3 X aS aU)) λaV p=>C (bC n (I aV) (I (D X))) λaW=>aO (I aW) (C (j P 26 a 1) λaX=>C (A P p 23 aX) λaY=>C (w P .add 3 Y d (J U 1)) λaZ=>C (ff P 23 aY (I d) (I aZ) u) λa0=>C (bA P 26 [(1,a0)]) λak=>i p (G 13 [ak] p) λal B=>C (w P .add 9 X x al) λam=>C (w P .add 3 Y d (J U 1)) λan=>io G N o y a c an h am z B) (C (w P .eql 3 Y F (J U 2)) λl=>S l Y p (bP h) λao B=>S l Y B (k (j P 26 a 2)) λap K=>S l Y K (qr (A P K 24 ap)) λV L=>S l Y L (λq=>et (bK P .empty .len [24] [V]) (bK P L .len [24] [V]) q) λaq af=>S l Y af (k (w P .lss 3 X ao aq)) λar s=>C (bC l (I ar) (I (D X))) λau=>aO (I au) (C (j P 26 a 2) λav=>C (A P s 24 av) λaw=>C (w P .add 3 Y h (J U 1)) λay=>C (ff P 24 aw (I h) (I ay) u) λaz=>C (bA P 26 [(2,az)]) λaA=>i s (G 13 [aA] s) λaB ah=>C (w P .add 9 X x aB) λaC=>C (w P .add 3 Y h (J U 1)) λaD=>io G N o y a c d aD aC z ah) (io G N o y a c d h x z s)))
def Zv(G:e)(N:Nat)(a:aa->aa->aa->aa->aa->aa->aa->ad->O):∀V H,a7 P G N (L (L (d (d (L (d (d (L (d (L (L (L (L (L (n Tryz.f4))))))))))))))) (λV H=>io G N a (V 1) (V 5) (V 7) (V 8) (V 9) (V 10) (V 11) H) [(1,(λV H=>io G N a (V 1) (V 5) (V 7) (V 8) (V 9) (V 10) (V 11) H)),(0,(λV H=>mg G N (V 5) (V 10) H))] (p Tryz.f4) V H=ip G N a (V 1) (V 5) (V 7) (V 8) (V 9) (V 10) (V 11) (V 12) H:=by
 refine bm (q _) λV H=> ?_
 delta ip;generalize io G N a=c;revert c;refine id ?_;intro c;kernel_rfl
def ym(G:e)(N:Nat)(p:aa->aa->aa->aa->aa->aa->aa->ad->O)(y d:aa)(m n:aa)(o l i:aa)(H:ad):O:=C (j P 26 d 0) λR=>C (A P H 22 R) λT=>bU P .len [22] [T] H λV=>C (w P .lss 3 X m V) λa=>S a X H (bP n) λW F=>S a X F (k (j P 26 d 1)) λab s=>S a X s (qr (A P s 23 ab)) λB v=>S a X v (λq=>et (bK P .empty .len [23] [B]) (bK P v .len [23] [B]) q) λae K=>S a X K (k (w P .lss 3 X W ae)) λaf L=>C (bC a (I (D Y)) (I af)) λc=>S c X L (bP o) λah M=>S c X M (k (j P 26 d 2)) λai x=>S c X x (qr (A P x 24 ai)) λE z=>S c X z (λq=>et (bK P .empty .len [24] [E]) (bK P z .len [24] [E]) q) λaj Q=>S c X Q (k (w P .lss 3 X ah aj)) λak h=>C (bC c (I (D Y)) (I ak)) λal=>aO (I al) (C (w P .rem 3 Y i (J U 3)) λam=>bU P .len [35] [y] h λan=>C (w P .lss 3 X i an) λao=>aO (I ao) (C (bX P 35 y i) λap=>C (A P h 3 ap) λaq=>C (w P .and 3 Y aq (J U 1023)) λar=>C (w P .rem 3 Y ar (J U 3)) λau=>ip G N p y d m n o l i au h) (ip G N p y d m n o l i am h)) (mg G N d l h)
def lw(G:e)(N:Nat):Nat->aa->aa->aa->aa->aa->aa->aa->ad->O
 |0,_,_,_,_,_,_,_,_=>u
 |n+1,y,d,h,i,j,a,c,H=>ym G N (lw G N n) y d h i j a c H
def Zr(G:e)(N:Nat)(a:aa->aa->aa->aa->aa->aa->aa->ad->O):∀V H,a7 P G N (d (d (L (d (L (L (L (L (L (n Tryz.f4)))))))))) (λV H=>a (V 1) (V 5) (V 7) (V 8) (V 9) (V 10) (V 11) H) [(0,(λV H=>mg G N (V 5) (V 10) H))] (p Tryz.f4) V H=ym G N a (V 1) (V 5) (V 7) (V 8) (V 9) (V 10) (V 11) H:=by
 refine bm ((Q M ((Q M (Zu G N a) ((cn M ((Q M ((Q M (Zv G N a) (q _))) (q _))))))) (q _))) λV H=> ?_
 delta ym;generalize mg G N=c;generalize ip G N a=h;revert c h;refine id ?_;intro c h;kernel_rfl
def ho(G:e)(N:Nat)(F y:aa)(H:ad):O:=i H (G 9 [F] H) λn p=>C (dG n 0) λv=>C (dG n 1) λx=>bn p [aa.ag,aa.ag,aa.ag] λo q=>bn q [J U 0,J U 0] λaJ c=>aG c (aB P c 26 o v) λd=>aG d (aB P d 29 aJ x) λh=>bU P .len [9] [F] h λz=>C (w P .gtr 3 Y z (J U 3000)) λa=>S a X h (k (j P 29 aJ 0)) λB l=>S a X l (qr (A P l 27 B)) λE s=>S a X s (k (w P .neq 27 Y E (J U 0))) λK m=>C (bC a (I (D Y)) (I K)) λL=>aO (I L) (I ((D Y),m)) (lw G N N y o (J U 0) (J U 0) (J U 0) (Z []) (J U 0) m)
def Zs(G:e)(N:Nat)(F:aa)(y:aa)(H:ad):vl Tryz.f4 G N (lN [F,y]) H=ho G N F y H:=by
 refine cG (A:=vl Tryz.f4 G N) ((Q M ((Q M ((Q M ((Q M ((Q M ((Q M (Zt G N) ((Q M ((cn M ((cY (k:=λm V H=>lw G N m (V 1) (V 5) (V 7) (V 8) (V 9) (V 10) (V 11) H) M (λV H=>M) (λm=>Zr G N (lw G N m)))))) (q _))))) (q _))) (q _))) (q _))) (q _))) (q _))) ?_;delta ho;generalize lw G N N=a;revert a;refine id ?_;intro a;kernel_rfl
end
end
def cf.U8{c:Type}{K:ja c}{H:ad}{ok:Nat->Prop}{l:List c}{v:aa}(h:cf K H ok l v)(ak:¬l.length=0):∃L i cap ro els,v= .ax L i l.length K.esz (xy (· +l.length) cap)/\ok L/\H.get L=I (.row ro K.esz els)/\∀(j:Nat) (a:c),l[j]? =I a->∃cs,els[i+j]? =I cs/\K.V H ok a cs:=by
 rcases h with⟨_,rfl⟩|⟨L,i,cap,ro,els,ap,aE,bB,dk⟩|⟨_,_,_,_,rfl⟩
 ·simp at ak
 ·exact⟨L,i,cap,ro,els,ap,aE,bB,dk⟩
 ·simp at ak
def cf.piece{m:Type}{K:ja m}{t e:Nat}(y:jb t e K.esz){H:ad}{ok:Nat->Prop}{l:List m}{v:aa}(h:cf K H ok l v){r:Nat}(q:r<l.length){z:Int}(s:z=((r+1:Nat):Int)):∃k,ff P t v (I (J U r)) (I (J U z)) u=I k/\cf K H ok [l[r]] k:=by
 subst s;obtain⟨L,i,cap,ro,els,rfl,n,o,p⟩:=h.U8 ae;obtain⟨cs,aX,w⟩:=p r l[r] (cd q);have x:r+1<=(xy (· +l.length) cap).getD l.length:=by
  cases cap with
  |none=>simp;omega
  |some c=>simp;omega
 have bf:dP (I (J U ((r+1:Nat):Int))) l.length ((xy (· +l.length) cap).getD l.length)=I (r+1):=by
  simp only[dP];rw[if_pos ⟨ae,ae⟩,Int.toNat_natCast]
 have bo:dP (I (J U (r:Int))) 0 (r+1)=I r:=by
  simp only[dP];rw[if_pos ⟨ae,ae⟩,Int.toNat_natCast]
 refine⟨.ax L (i+r) 1 K.esz (xy (· +1) (xy (λc=>c+l.length-r-1) cap)),?_,.inr (.inl ⟨L,i+r,_,ro,els,rfl,n,o,λj a d=> ?_⟩)⟩
 ·simp only[ff,y.un,y.ts,if_true,bf,bo];rw[show r+1-r=1 by omega];have:xy (· -r) (xy (· +l.length) cap)=xy (· +1) (xy (λc=>c+l.length-r-1) cap):=by
   cases cap with
   |none=>rfl
   |some c=>simp;omega
  rw[this]
 ·rcases j with _|j
  ·cases d;exact⟨cs,aX,w⟩
  ·simp at d
def Ti:jb 22 41 dq.esz:=tr
def Th:jb 23 66 cQ.esz:=k9
def Tg:jb 24 46 dh.esz:=tq
def Un{x:dB}(h:lL x):jd ⟨[x],[],[]⟩:=⟨λy a=>by simp at a;subst a;exact h,(λy a=>by cases a),(λy a=>by cases a),by simp,by simp,by simp⟩
def Ul{x:bq}(h:fd x):jd ⟨[],[x],[]⟩:=⟨(λy a=>by cases a),λy a=>by simp at a;subst a;exact h,(λy a=>by cases a),by simp,by simp,by simp⟩
def Uk{x:Fn}(h:mT x/\dN x.body<=1000000000):jd ⟨[],[],[x]⟩:=⟨(λy a=>by cases a),(λy a=>by cases a),λy a=>by simp at a;subst a;exact h,by simp,by simp,by simp⟩
def Jb(z:Int):Int:=(IntKind.i64.wrap ((BitVec.ofInt IntKind.i64.bits z&&&BitVec.ofInt IntKind.i64.bits 1023).toNat:Int)).tmod 3
def qM(O:List Int)(i:Nat):Int:=match O[i]? with
 |some z=>Jb z
 |none=>((i%3:Nat):Int)
def mN(H:ad)(O:List Int)(v:aa):Prop:=((v= .ag\/∃L i cap,v= .ax L i 0 1 cap)/\O=[])\/∃L cap ro els,v= .ax L 0 O.length 1 cap/\H.get L=I (.row ro 1 els)/\∀(i:Nat) (z:Int),O[i]? =I z->els[i]? =I [J U z]
def mN.len{H:ad}{O:List Int}{v:aa}(h:mN H O v)(H':ad):bK P H' .len [35] [v]=I (J U O.length):=by
 rcases h with⟨rfl|⟨L,i,cap,rfl⟩,rfl⟩|⟨L,cap,ro,els,rfl,_⟩
 ·kernel_rfl
 ·kernel_rfl
 ·generalize O.length=n;kernel_rfl
def Ae{a b:Nat}(h:a<b):HI a b=true:=by rw[MN];exact h
def L_(n:Int):w P .rem 3 Y (J U n) (J U 3)=I (J U (n.tmod 3)):=by simp[w,hC]
def PK(n:Int):w P .and 3 Y (J U n) (J U 1023)=I (J U (IntKind.i64.wrap ((BitVec.ofInt IntKind.i64.bits n&&&BitVec.ofInt IntKind.i64.bits 1023).toNat:Int))):=by simp[w,hC]
section
variable {G:bw}{H0:ad}{b:Nat}{rv gv fv:aa}{ok:Nat->Prop}
def B3{t:ay}{i:dO}(l:List dO):flat (bZ (l++[i]))=flat (bZ l)++flat (bZ [i]):=by rw[wb,ec]
def SG(v:jd G)(aq:H0.get b=I (.row X 3 [[rv,gv,fv]]))(af:cf dq H0 ok G.bJ rv)(V:cf cQ H0 ok G.globals gv)(T:cf dh H0 ok G.funcs fv){N:Nat}{E:aa->aa->aa->aa->aa->aa->aa->ad->O}{S:aa}{s:dd}(au:s.kT G){i:Nat}(ar:i<=4611686018427387904){k:Int}{H:ad}(q:aw H0 H){Q:aa->ad->Prop}
  (c:∀H',aw H0 H'->W (E S (.ptr b 0 0) (J U (s.step G k).r) (J U (s.step G k).g) (J U (s.step G k).h) (Z (flat (bZ (s.step G k).l))) (J U ((i+1:Nat):Int)) H') Q):
  W (ip (al P aj) N E S (.ptr b 0 0) (J U s.r) (J U s.g) (J U s.h) (Z (flat (bZ s.l))) (J U i) (J U k) H) Q:=by
 have w:IntKind.i64.wrap ((i:Int)+1)=((i+1:Nat):Int):=by rw[wrap_i64 ae ae];omega
 have aD:=v.fF;have az:=v.jv;have ay:=v.lV;have aI:=au.r;have aF:=au.g;have aG:=au.h;have aH:=au.n;have aB:=T4 v au;have aC:s.l.length<=300:=ae;have an:IntKind.i64.wrap ((s.r:Int)+1)=((s.r+1:Nat):Int):=by rw[wrap_i64 ae ae];omega
 have ak:IntKind.i64.wrap ((s.g:Int)+1)=((s.g+1:Nat):Int):=by rw[wrap_i64 ae ae];omega
 have am:IntKind.i64.wrap ((s.h:Int)+1)=((s.h+1:Nat):Int):=by rw[wrap_i64 ae ae];omega
 have bf:=q.get aq;have aQ:=λH'=>af.jV H'
 have c2:=λH'=>V.hY H'
 have c3:=λH'=>T.jW H'
 have C:s.step G k=s->W (E S (.ptr b 0 0) (J U s.r) (J U s.g) (J U s.h) (Z (flat (bZ s.l))) (J U ((i+1:Nat):Int)) H) Q:=λe=>by
  have:=c H q;rw[e]at this;exact this
 by_cases K:k=0
 ·subst K;by_cases a:s.r<G.bJ.length
  ·have d:(s.r:Int)<(G.bJ.length:Int):=ae;obtain⟨m,ap,aE⟩:=(af.aP (ce.av q)).piece Ti a rfl;have o:=v.lk _ (kl a);have A:s.step G 0={s with r:=s.r+1,l:=s.l++[dO.r G.bJ[s.r]]}:=by
    unfold dd.step;rw[if_pos ⟨rfl,a⟩,cd a];rfl
   rw[A]at c;simp only at c;rw[B3 (t:=[])]at c;have z:=λH'=>B2 (H:=H') (ok:=ok) (rv:=m) (gv:= .ag) (fv:= .ag) (g:=⟨[G.bJ[s.r]],[],[]⟩)
   have B:=Bk o;have cc:flat (rc ⟨[G.bJ[s.r]],[],[]⟩)=flat (bZ [dO.r G.bJ[s.r]]):=rfl;have ab:(flat (bZ [dO.r G.bJ[s.r]])).length<=400:=by rw[bZ,bZ,ef,gS];exact B
   have y:bA P 26 [(0,m)]=I (.agg [m,.ag,.ag]):=by
    rcases aE with⟨rfl,j⟩|⟨L,i,cap,ro,els,rfl,_⟩|⟨L,i,cap,rfl,j⟩
    ·cases j
    ·exact z7 _ _ _ _ _
    ·cases j
   simp(disch:=try exact ah)only[ip,ai,bf,aQ,d,decide_true,beq_self_eq_true,an,ap,y];refine aA (z H aE (.inl ⟨rfl,rfl⟩) (.inl ⟨rfl,rfl⟩) (Un o)) ?_;rintro _ x ⟨rfl,p⟩;refine⟨p.1,?_⟩;rw[cc];simp(disch:=try exact dz)only[io,aR,b8,cJ,w,an];exact c x (q.trans p)
  ·have d:¬(s.r:Int)<(G.bJ.length:Int):=ae;have ao:((0:Int)==1)=false:=rfl;have F:((0:Int)==2)=false:=rfl;simp(disch:=try exact ah)only[ip,io,ai,bf,aQ,d,decide_false,beq_self_eq_true,ao,F,w];refine C ?_;unfold dd.step;rw[if_neg (λh=>a h.2),if_neg (by rintro⟨h,_⟩;cases h),if_neg (by rintro⟨h,_⟩;cases h)]
 have f0:(k==0)=false:=by simpa using K
 by_cases M:k=1
 ·subst M;by_cases a:s.g<G.globals.length
  ·have d:(s.g:Int)<(G.globals.length:Int):=ae;obtain⟨m,ap,aE⟩:=(V.aP (ce.av q)).piece Th a rfl;have o:=v.fM _ (kl a);have A:s.step G 1={s with g:=s.g+1,l:=s.l++[dO.g G.globals[s.g]]}:=by
    unfold dd.step;rw[if_neg (by rintro⟨h,_⟩;cases h),if_pos ⟨rfl,a⟩,cd a];rfl
   rw[A]at c;simp only at c;rw[B3 (t:=[])]at c;have z:=λH'=>B2 (H:=H') (ok:=ok) (rv:= .ag) (gv:=m) (fv:= .ag) (g:=⟨[],[G.globals[s.g]],[]⟩)
   have B:=Bj o;have cc:flat (rc ⟨[],[G.globals[s.g]],[]⟩)=flat (bZ [dO.g G.globals[s.g]]):=rfl;have ab:(flat (bZ [dO.g G.globals[s.g]])).length<=400:=by rw[bZ,bZ,ef,gS];omega
   have y:bA P 26 [(1,m)]=I (.agg [.ag,m,.ag]):=by
    rcases aE with⟨rfl,j⟩|⟨L,i,cap,ro,els,rfl,_⟩|⟨L,i,cap,rfl,j⟩
    ·cases j
    ·exact z8 _ _ _ _ _
    ·cases j
   simp(disch:=try exact ah)only[ip,ai,bf,c2,d,decide_true,beq_self_eq_true,f0,ak,ap,y];refine aA (z H (.inl ⟨rfl,rfl⟩) aE (.inl ⟨rfl,rfl⟩) (Ul o)) ?_;rintro _ x ⟨rfl,p⟩;refine⟨p.1,?_⟩;rw[cc];simp(disch:=try exact dz)only[io,aR,b8,cJ,w,ak];exact c x (q.trans p)
  ·have d:¬(s.g:Int)<(G.globals.length:Int):=ae;have F:((1:Int)==2)=false:=rfl;simp(disch:=try exact ah)only[ip,io,ai,bf,c2,d,decide_false,beq_self_eq_true,f0,F,w];refine C ?_;unfold dd.step;rw[if_neg (by rintro⟨h,_⟩;cases h),if_neg (λh=>a h.2),if_neg (by rintro⟨h,_⟩;cases h)]
 have f1:(k==1)=false:=by simpa using M
 by_cases R:k=2
 ·subst R;by_cases a:s.h<G.funcs.length
  ·have d:(s.h:Int)<(G.funcs.length:Int):=ae;obtain⟨m,ap,aE⟩:=(T.aP (ce.av q)).piece Tg a rfl;have o:=v.eb _ (kl a);have A:s.step G 2={s with h:=s.h+1,l:=s.l++[dO.f G.funcs[s.h]]}:=by
    unfold dd.step;rw[if_neg (by rintro⟨h,_⟩;cases h),if_neg (by rintro⟨h,_⟩;cases h),if_pos ⟨rfl,a⟩,cd a];rfl
   rw[A]at c;simp only at c;rw[B3 (t:=[])]at c;have z:=λH'=>B2 (H:=H') (ok:=ok) (rv:= .ag) (gv:= .ag) (fv:=m) (g:=⟨[],[],[G.funcs[s.h]]⟩)
   have B:=Jy o.1 o.2;have cc:flat (rc ⟨[],[],[G.funcs[s.h]]⟩)=flat (bZ [dO.f G.funcs[s.h]]):=rfl;have ab:(flat (bZ [dO.f G.funcs[s.h]])).length<=1000001000:=by rw[bZ,bZ,ef,gS];exact B
   have y:bA P 26 [(2,m)]=I (.agg [.ag,.ag,m]):=by
    rcases aE with⟨rfl,j⟩|⟨L,i,cap,ro,els,rfl,_⟩|⟨L,i,cap,rfl,j⟩
    ·cases j
    ·exact z_ _ _ _ _ _
    ·cases j
   simp(disch:=try exact ah)only[ip,ai,bf,c3,d,decide_true,beq_self_eq_true,f0,f1,am,ap,y];refine aA (z H (.inl ⟨rfl,rfl⟩) (.inl ⟨rfl,rfl⟩) aE (Uk o)) ?_;rintro _ x ⟨rfl,p⟩;refine⟨p.1,?_⟩;rw[cc];simp(disch:=try exact dz)only[io,aR,b8,cJ,w,am];exact c x (q.trans p)
  ·have d:¬(s.h:Int)<(G.funcs.length:Int):=ae;simp(disch:=try exact ah)only[ip,io,ai,bf,c3,d,decide_false,beq_self_eq_true,f0,f1,w];refine C ?_;unfold dd.step;rw[if_neg (by rintro⟨h,_⟩;cases h),if_neg (by rintro⟨h,_⟩;cases h),if_neg (λh=>a h.2)]
 have f2:(k==2)=false:=by simpa using R
 simp(disch:=try exact ah)only[ip,io,ai,f0,f1,f2,w];refine C ?_;unfold dd.step;rw[if_neg (λh=>K h.1),if_neg (λh=>M h.1),if_neg (λh=>R h.1)]
def Ok(T:jd G)(q:H0.get b=I (.row X 3 [[rv,gv,fv]]))(E:cf dq H0 ok G.bJ rv)(x:cf cQ H0 ok G.globals gv)(v:cf dh H0 ok G.funcs fv){O:List Int}{d:aa}(B:mN H0 O d){N:Nat}{Q:aa->ad->Prop}:
  ∀(n i:Nat) (s s':dd) (H:ad),runT G (qM O) n i s=I s'->s.kT G->i+n<=4611686018427387904->aw H0 H->(∀H',aw H0 H'->s'.kT G->s'.more G=X->W (mg (al P aj) N (.ptr b 0 0) (Z (flat (bZ s'.l))) H') Q)->
  W (lw (al P aj) N n d (.ptr b 0 0) (J U s.r) (J U s.g) (J U s.h) (Z (flat (bZ s.l))) (J U i) H) Q
 |0,_,_,_,_,h,_,_,_,_=>by cases h
 |n+1,i,s,s',H,h,au,aD,m,R=>by
  rw[runT]at h;have bf:=m.get q;have aQ:=λH'=>E.jV H'
  have c2:=λH'=>x.hY H'
  have c3:=λH'=>v.jW H'
  have aG:=au.r;have aE:=au.g;have aF:=au.h;have an:=λH'=>B.len H'
  have o:s.more G=Y->W (C (w P .rem 3 Y (J U (i:Int)) (J U 3)) λap=>bU P .len [35] [d] H λar=>C (w P .lss 3 X (J U (i:Int)) ar) λav=>aO (I av) (C (bX P 35 d (J U (i:Int))) λay=>C (A P H 3 ay) λaz=>C (w P .and 3 Y az (J U 1023)) λaA=>C (w P .rem 3 Y aA (J U 3)) λaB=>ip (al P aj) N (lw (al P aj) N n) d (.ptr b 0 0) (J U s.r) (J U s.g) (J U s.h) (Z (flat (bZ s.l))) (J U i) aB H) (ip (al P aj) N (lw (al P aj) N n) d (.ptr b 0 0) (J U s.r) (J U s.g) (J U s.h) (Z (flat (bZ s.l))) (J U i) ap H)) Q:=by
   intro c;rw[c,aK]at h;have V:∀k,k=qM O i->W (ip (al P aj) N (lw (al P aj) N n) d (.ptr b 0 0) (J U s.r) (J U s.g) (J U s.h) (Z (flat (bZ s.l))) (J U i) (J U k) H) Q:=by
    rintro k rfl;exact SG T q E x v au ae m λH' ao=>Ok T q E x v B n (i+1) _ s' H' h (abe G au _) ae ao R
   have aq:(i:Int).tmod 3=((i%3:Nat):Int):=rfl;by_cases y:i<O.length
   ·have z:(i:Int)<(O.length:Int):=ae;have aC:(0:Int)<=(i:Int):=ae;have am:(i:Int).toNat=i:=ae;rcases B with⟨_,rfl⟩|⟨L,cap,ro,els,rfl,ab,ak⟩
    ·simp at y
    ·have aX:=ak i O[i] (cd y);have af:=m.get ab;simp(disch:=try exact ah)only[ai,L_,z,decide_true,af,am,aX,PK];exact V _ (by unfold qM Jb;rw[cd y])
   ·have z:¬(i:Int)<(O.length:Int):=ae;simp(disch:=try exact ah)only[ai,L_,an,z,decide_false,aq];exact V _ (by unfold qM;rw[JK ae])
  rw[lw];unfold ym;by_cases F:s.r<G.bJ.length
  ·have e:(s.r:Int)<(G.bJ.length:Int):=ae;have c:s.more G=true:=by unfold dd.more;rw[Ae F];rfl
   simp(disch:=try exact ah)only[ai,bf,aQ,e,decide_true];exact o c
  have e:¬(s.r:Int)<(G.bJ.length:Int):=ae;by_cases K:s.g<G.globals.length
  ·have j:(s.g:Int)<(G.globals.length:Int):=ae;have c:s.more G=true:=by unfold dd.more;rw[Ae K,Bool.true_or,OP]
   simp(disch:=try exact ah)only[ai,bf,aQ,c2,e,j,decide_true,decide_false];exact o c
  have j:¬(s.g:Int)<(G.globals.length:Int):=ae;by_cases M:s.h<G.funcs.length
  ·have p:(s.h:Int)<(G.funcs.length:Int):=ae;have c:s.more G=true:=by unfold dd.more;rw[Ae M,OP,OP]
   simp(disch:=try exact ah)only[ai,bf,aQ,c2,c3,e,j,p,decide_true,decide_false];exact o c
  have p:¬(s.h:Int)<(G.funcs.length:Int):=ae;have c:s.more G=false:=by
   have f:∀a b:Nat,¬a<b->HI a b=false:=λa b h=>by
    cases S:HI a b with
    |false=>rfl
    |true=>exact absurd (by rw[MN]at S;exact S) h
   unfold dd.more;rw[f _ _ F,f _ _ K,f _ _ M];rfl
  rw[c,aH]at h;cases h;simp(disch:=try exact ah)only[ai,bf,aQ,c2,c3,e,j,p,decide_false];exact R H m au c
end
def mN.av{H H':ad}{O:List Int}{v:aa}(h:mN H O v)(p:aw H H'):mN H' O v:=by
 rcases h with h|⟨L,cap,ro,els,e,a,c⟩
 ·exact .inl h
 ·exact .inr ⟨L,cap,ro,els,e,p.get a,c⟩
def abz{H:ad}(K:fq.gd H)(s:ay){O:List Int}{ar:aa}(aS:mN H O ar)(a7:O.length<=1125899906842624):∃N,W (ho (al P aj) N (Z s) ar H) λv H'=>v= D Y/\aw H H':=by
 obtain⟨p,q,a8,ap,aM,E⟩:=LG s;rw[aM]at E;obtain⟨s',C⟩:=Mu (fb s q.1 q.2).1 (qM O) (m:=O.length) (λi aN=>by unfold qM;rw[JK aN]) O.length 0 (dd.rem (fb s q.1 q.2).1 ⟨0,0,0,[]⟩) ⟨0,0,0,[]⟩ ae (aV _);generalize ao:O.length+(3*dd.rem (fb s q.1 q.2).1 ⟨0,0,0,[]⟩+4)=N at C;refine⟨N,?_⟩;rw[ho];simp(disch:=try exact ah)only[aR];refine aA (UE s (g':=q.1) (s':=q.2) (aV _) (aV _) ap) ?_;rintro _ H1 ⟨rv,gv,fv,rfl,aI,a2,a3,au⟩;refine⟨au.1,?_⟩;have br:=aI.one;have bI:=a2.one;have b2:=a3.one;have L:(fb s q.1 q.2).2.1=0->jd (fb s q.1 q.2).1/\(fb s q.1 q.2).1.bJ.length<=12/\(fb s q.1 q.2).1.globals.length<=8/\(fb s q.1 q.2).1.funcs.length<=16:=by
  intro h;obtain⟨bf,bo,b3⟩:=UA h (Decidable.em _);rw[b3];exact ab2 bf (ap bf) bo
 generalize fb s q.1 q.2=x at E L C ao aI a2 a3 ⊢;obtain⟨g,e,f⟩:=x;simp only at E L C ao aI a2 a3 ⊢;have o:=(aw.push H1 (.row X 3 [[rv,gv,fv]])).a1 (.row X 2 [[J U e,J U f]]);have G:=(aw.push (H1.push (.row X 3 [[rv,gv,fv]])) (.row X 2 [[J U e,J U f]])).get (ad.a_ H1 (.row X 3 [[rv,gv,fv]]));have B:=ad.a_ (H1.push (.row X 3 [[rv,gv,fv]])) (.row X 2 [[J U e,J U f]]);simp only[ad.bb]at B;simp(disch:=try exact ah)only[mn,ai,ad.gU,br,bI,b2];generalize (H1.push (.row X 3 [[rv,gv,fv]])).push (.row X 2 [[J U e,J U f]])=aE at o G B ⊢
 have w:=au.trans o;by_cases ak:(3000:Int)<s.length
 ·simp(disch:=try exact ah)only[ai,ak,decide_true];exact aD.2 ⟨rfl,w⟩
 by_cases an:e=0
 ·subst an;obtain⟨n,aH,aK,aJ⟩:=L rfl;simp(disch:=try exact ah)only[ai,ak,decide_false,B,bne_self_eq_false];have bf:=aI.aP (ce.av o);have bo:=a2.aP (ce.av o);have b3:=a3.aP (ce.av o);have a9:dd.rem g ⟨0,0,0,[]⟩<=300:=by unfold dd.rem;have:=n.fF;have:=n.jv;have:=n.lV;simp only;omega
  have key:=Ok (N:=N) n G bf bo b3 (aS.av w) (Q:=λv H'=>v= D Y/\aw H H') N 0 ⟨0,0,0,[]⟩ s' aE C (ok_none g) ae (.refl _) λaZ S aT aO=>by
   rw[mg];have T:=w.trans S;by_cases aq:(6000:Int)<(flat (bZ s'.l)).length
   ·simp(disch:=try exact ah)only[ai,aq,decide_true];refine aA (Jm (K.av T)) ?_;rintro _ a ⟨rfl,c⟩;exact⟨c.1,aD.2 ⟨rfl,T.trans c⟩⟩
   ·obtain⟨z,aU,M,R⟩:=aby n aH aK aJ aT aO ae;simp(disch:=try exact ah)only[ai,aq,decide_false];refine aA (Ld (K.av T) (flat (bZ s'.l)) (g':=z.1) (s':=z.2) (aV _) (aV _) aU) ?_;rintro _ a ⟨A,k,j,rfl,aQ,c2,c3,c⟩;refine⟨c.1,?_⟩;have aW:=aQ.one;have aX:=c2.one;have aY:=c3.one;generalize fb (flat (bZ s'.l)) z.1 z.2=y at M R aQ c2 c3 ⊢;obtain⟨a6,bB,f3⟩:=y;simp only at M R aQ c2 c3 ⊢;subst M;have aG:=S.get G;have V:=c.get aG;have dt:=ad.aF V;have d:=(aw.push a (.row X 3 [[A,k,j]])).a1 (.row X 2 [[J U 0,J U f3]]);have af:=(aw.push (a.push (.row X 3 [[A,k,j]])) (.row X 2 [[J U 0,J U f3]])).get (ad.a_ a (.row X 3 [[A,k,j]]))
    have am:=ad.a_ (a.push (.row X 3 [[A,k,j]])) (.row X 2 [[J U 0,J U f3]]);simp only[ad.bb]at am;have ab:=d.get V;simp(disch:=try exact ah)only[mn,ai,ad.gU,aW,aX,aY];generalize (a.push (.row X 3 [[A,k,j]])).push (.row X 2 [[J U 0,J U f3]])=a0 at d af am ab ⊢;simp(disch:=try exact ah)only[ai,ab,af,beq_self_eq_true];have F:=(S.trans c).trans d;refine dZ (Vf E (bf.aP (ce.av F)) (bo.aP (ce.av F)) (b3.aP (ce.av F)) (aQ.aP (ce.av d)) (c2.aP (ce.av d)) (c3.aP (ce.av d))) ?_;rw[R];rintro _ a4 ⟨rfl,az⟩;refine⟨az.1,?_⟩;simp(disch:=try exact ah)only[aR,beq_self_eq_true]
    have aC:=(w.trans F).trans az;refine dZ (Jm (K.av aC)) ?_;rintro _ a5 ⟨rfl,aB⟩;refine⟨aB.1,?_⟩;simp(disch:=try exact ah)only[aR];exact aD.2 ⟨rfl,aC.trans aB⟩
  exact key
 ·have aL:(e != 0)=true:=by simpa using an
  simp(disch:=try exact ah)only[ai,ak,decide_false,B,aL];exact aD.2 ⟨rfl,w⟩
