/-
  Texts of one proof, laid together: ShVa Va Vb Z12 Zb U1 U2 U3 U4 U5 Qa Vc Vd ShV ShVb.
-/
import Derived.Test.YtghmbpmaafnodaaDoorMM
set_option linter.unusedVariables false
set_option linter.unusedSimpArgs false
set_option linter.defProp false
open Option renaming some→D,none→Z
open Bool renaming true→X,false→U
open Go.b9.aa renaming int→I,str→Y
open Go.IntKind renaming i64→J
namespace Go.Proofs.YtghmbpmaafnodaaDoor
open Go.b9
open Nat (reduceAdd reduceLeDiff)
section
set_option maxRecDepth 100000
noncomputable section
def oU(G:ay)(ag av:aa)(H:ae):O:=cg H [I J 0,I J 0,Y [],Y [],I J 0,aa.ar,I J 0,I J 0,I J 0,I J 0,I J 0] λd a=>bf P .len [41] [ag] a λi=>j (aq P .geq 3 U av i) λk=>aW (D k) (a7 a (aV P a 45 d (.agg [I J 0,I J 0,Y [],Y [],I J 0,aa.ar,I J 0,I J 0,I J 0,I J 0,I J 0])) λc=>j (an P c 45 d) λr=>D (r,c)) (j (cc P 41 ag av) λe=>j (an P a 45 e) λh=>a7 a (aV P a 45 d h) λc=>j (an P c 45 d) λr=>D (r,c))
def vH(N:Nat){ag av:aa}{H:ae}{r:aa×ae}(h:oU (aC P az) ag av H=D r):aC P az 41 [ag,av] H=D r:=cO N (S:=λG=>oU G ag av H) Tryd.func41 (λ_=>by delta oU;kernel_rfl) h
def sx(G:ay)(ag av:aa)(H:ae):O:=bS H (dS (H).next ag) λe c=>j (aK P 45 e 0) λo=>j (an P c 3 o) λbp=>aI c (G 47 [bp] c) λp a=>j (aq P .lss 3 U p av) λq=>aW (D q) (j (an P a 45 e) λh=>aI a (G 16 [h] a) λi d=>j (aq P .add 9 X (Y [40]) i) λk=>j (aq P .add 9 X k (Y [41])) λl=>D (l,d)) (j (an P a 45 e) λm=>aI a (G 16 [m] a) λn d=>D (n,d))
def JM(N:Nat){ag av:aa}{H:ae}{r:aa×ae}(h:sx (aC P az) ag av H=D r):aC P az 44 [ag,av] H=D r:=cO N (S:=λG=>sx G ag av H) Tryd.func44 (λ_=>by delta sx;kernel_rfl) h
def nm(G:ay)(N:Nat)(d:aa)(H:ae):O:=aI H (G 59 [d,Y [44,32]] H) λc a=>D (c,a)
def K1(G:ay)(N:Nat):∀ad H,bo P G N (ak (ak (ak (bs Tryd.f45)))) (bh Tryd.f45) [] (bh Tryd.f45) ad H=nm G N (ad 3) H:=by
 refine bK (aH _) λad H=> ?_
 delta nm;kernel_rfl
def oV(G:ay)(N:Nat)(m:aa->aa->aa->aa->ae->O)(i bp:aa)(l c:aa)(H:ae):O:=j (aq P .lss 3 U c l) λw=>aW (D w) (j (cc P 41 bp c) λo=>j (an P H 45 o) λp=>cg H [I J 0,I J 0,Y [],Y [],I J 0,aa.ar,I J 0,I J 0,I J 0,I J 0,I J 0] λk d=>a7 d (aV P d 45 k p) λa=>j (an P a 45 k) λq=>aI a (G 16 [q] a) λs e=>bS e (bV P (e).next 50 1 [(0,s)]) λu h=>aI h (cQ P h [50,50] i u) λbz n=>j (aq P .add 3 X c (I J 1)) λv=>m bz bp l v n) (nm G N i H)
def k5(G:ay)(N:Nat):Nat->aa->aa->aa->aa->ae->O
 |0,_,_,_,_,_=>Z
 |n+1,a,bp,c,d,H=>oV G N (k5 G N n) a bp c d H
def K0(G:ay)(N:Nat)(c:aa->aa->aa->aa->ae->O):∀ad H,bo P G N (a6 (a6 (ak (a6 (ak (ak (bs Tryd.f45))))))) (λad H=>c (ad 3) (ad 6) (ad 7) (ad 8) H) [(0,(λad H=>nm G N (ad 3) H))] (bh Tryd.f45) ad H=oV G N c (ad 3) (ad 6) (ad 7) (ad 8) H:=by
 refine bK (aH _) λad H=> ?_
 delta oV;generalize nm G N=a;revert a;refine id ?_;intro a;kernel_rfl
def sy(G:ay)(N:Nat)(ag:aa)(H:ae):O:=bf P .len [41] [ag] H λa=>k5 G N N aa.ar ag a (I J 0) H
def JN(N:Nat){ag:aa}{H:ae}{r:aa×ae}(h:sy (aC P az) N ag H=D r):aC P az 45 [ag] H=D r:=cO N (S:=λG=>sy G N ag H) Tryd.func45 (λG=>dN ((aP ah ((aP ah ((aP ah (K1 G N) ((aP ah ((dc ah ((ei (k:=λm ad H=>k5 G N m (ad 3) (ad 6) (ad 7) (ad 8) H) ah (λad H=>ah) (λm=>K0 G N (k5 G N m)))))) (aH _))))) (aH _))) (aH _))) (by delta sy;generalize k5 G N N=a;revert a;refine id ?_;intro a;kernel_rfl)) h
def oW(G:ay)(H:ae):O:=some ((Y []),H)
def K2(G:ay)(N:Nat):∀ad H,bo P G N (ak (ak (bs Tryd.f46))) (bh Tryd.f46) [] (bh Tryd.f46) ad H=oW G H:=by
 refine bK (aH _) λad H=> ?_
 delta oW;kernel_rfl
def nn(G:ay)(a o:aa)(H:ae):O:=aW (D o) (D ((Y [45]),H)) (j (aq P .eql 3 X a (I J 13)) λp=>aW (D p) (D ((Y [33]),H)) (j (aq P .eql 3 X a (I J 14)) λc=>aW (D c) (D ((Y [43]),H)) (j (aq P .eql 3 X a (I J 16)) λd=>aW (D d) (D ((Y [42]),H)) (j (aq P .eql 3 X a (I J 17)) λe=>aW (D e) (D ((Y [47]),H)) (j (aq P .eql 3 X a (I J 18)) λbz=>aW (D bz) (D ((Y [37]),H)) (j (aq P .eql 3 X a (I J 19)) λh=>aW (D h) (D ((Y [60]),H)) (j (aq P .eql 3 X a (I J 20)) λi=>aW (D i) (D ((Y [60,61]),H)) (j (aq P .eql 3 X a (I J 21)) λk=>aW (D k) (D ((Y [61,61]),H)) (j (aq P .eql 3 X a (I J 22)) λl=>aW (D l) (D ((Y [33,61]),H)) (j (aq P .eql 3 X a (I J 23)) λm=>aW (D m) (D ((Y [38,38]),H)) (j (aq P .eql 3 X a (I J 24)) λn=>aW (D n) (D ((Y [124,124]),H)) (oW G H))))))))))))
def K3(G:ay)(N:Nat):∀ad H,bo P G N (ak (a6 (ak (a6 (ak (bs Tryd.f46)))))) (λad H=>oW G H) [(0,(λad H=>oW G H))] (bh Tryd.f46) ad H=nn G (ad 3) (ad 4) H:=by
 refine bK (aH _) λad H=> ?_
 delta nn;generalize oW G=a;revert a;refine id ?_;intro a;kernel_rfl
def qM(G:ay)(ag:aa)(H:ae):O:=j (aq P .eql 3 X ag (I J 12)) λa=>aW (D a) (nn G ag a H) (j (aq P .eql 3 X ag (I J 15)) λbp=>nn G ag bp H)
def vI(N:Nat){ag:aa}{H:ae}{r:aa×ae}(h:qM (aC P az) ag H=D r):aC P az 46 [ag] H=D r:=cO N (S:=λG=>qM G ag H) Tryd.func46 (λG=>dN ((aP ah ((aP ah (K2 G N) ((aP ah ((dc ah ((aP ah (K3 G N) (aH _))))) (aH _))))) (aH _))) (by delta qM;generalize nn G=a;revert a;refine id ?_;intro a;kernel_rfl)) h
def iJ(G:ay)(H:ae):O:=some ((I J 7),H)
def K4(G:ay)(N:Nat):∀ad H,bo P G N (ak (ak (bs Tryd.f47))) (bh Tryd.f47) [] (bh Tryd.f47) ad H=iJ G H:=by
 refine bK (aH _) λad H=> ?_
 delta iJ;kernel_rfl
def oY(G:ay)(a:aa)(H:ae):O:=aW (D a) (D ((I J 6),H)) (iJ G H)
def K8(G:ay)(N:Nat):∀ad H,bo P G N (ak (ak (ak (ak (ak (ak (ak (ak (ak (ak (ak (a6 (ak (a6 (ak (bs Tryd.f47)))))))))))))))) (λad H=>iJ G H) [(0,(λad H=>iJ G H))] (bh Tryd.f47) ad H=oY G (ad 20) H:=by
 refine bK (aH _) λad H=> ?_
 delta oY;generalize iJ G=a;revert a;refine id ?_;intro a;kernel_rfl
def np(G:ay)(c bz:aa)(H:ae):O:=aW (D bz) (D ((I J 5),H)) (j (aq P .eql 3 X c (I J 12)) λa=>aW (D a) (oY G a H) (j (aq P .eql 3 X c (I J 13)) λd=>oY G d H))
def K7(G:ay)(N:Nat):∀ad H,bo P G N (ak (ak (ak (ak (ak (ak (ak (ak (ak (a6 (ak (a6 (ak (bs Tryd.f47)))))))))))))) (λad H=>iJ G H) [(0,(λad H=>iJ G H))] (bh Tryd.f47) ad H=np G (ad 3) (ad 16) H:=by
 refine bK ((dt ah (aH _) ((aP ah (K8 G N) (aH _))))) λad H=> ?_
 delta np;generalize oY G=a;revert a;refine id ?_;intro a;kernel_rfl
def oX(G:ay)(a e:aa)(H:ae):O:=aW (D e) (D ((I J 4),H)) (j (aq P .eql 3 X a (I J 16)) λc=>aW (D c) (np G a c H) (j (aq P .eql 3 X a (I J 17)) λd=>aW (D d) (np G a d H) (j (aq P .eql 3 X a (I J 18)) λh=>np G a h H)))
def K6(G:ay)(N:Nat):∀ad H,bo P G N (ak (ak (ak (ak (ak (ak (ak (a6 (ak (a6 (ak (bs Tryd.f47)))))))))))) (λad H=>iJ G H) [(0,(λad H=>iJ G H))] (bh Tryd.f47) ad H=oX G (ad 3) (ad 13) H:=by
 refine bK ((dt ah (aH _) ((aP ah (K7 G N) (aH _))))) λad H=> ?_
 delta oX;generalize np G=a;revert a;refine id ?_;intro a;kernel_rfl
def lX(G:ay)(a e:aa)(H:ae):O:=aW (D e) (D ((I J 3),H)) (j (aq P .eql 3 X a (I J 14)) λc=>aW (D c) (oX G a c H) (j (aq P .eql 3 X a (I J 15)) λd=>oX G a d H))
def K5(G:ay)(N:Nat):∀ad H,bo P G N (ak (ak (ak (ak (ak (a6 (ak (a6 (ak (bs Tryd.f47)))))))))) (λad H=>iJ G H) [(0,(λad H=>iJ G H))] (bh Tryd.f47) ad H=lX G (ad 3) (ad 8) H:=by
 refine bK ((dt ah (aH _) ((aP ah (K6 G N) (aH _))))) λad H=> ?_
 delta lX;generalize oX G=a;revert a;refine id ?_;intro a;kernel_rfl
def sz(G:ay)(ag:aa)(H:ae):O:=j (aq P .eql 3 X ag (I J 24)) λh=>aW (D h) (D ((I J 1),H)) (j (aq P .eql 3 X ag (I J 23)) λi=>aW (D i) (D ((I J 2),H)) (j (aq P .eql 3 X ag (I J 19)) λd=>aW (D d) (lX G ag d H) (j (aq P .eql 3 X ag (I J 20)) λa=>aW (D a) (lX G ag a H) (j (aq P .eql 3 X ag (I J 21)) λc=>aW (D c) (lX G ag c H) (j (aq P .eql 3 X ag (I J 22)) λe=>lX G ag e H)))))
def JO(N:Nat){ag:aa}{H:ae}{r:aa×ae}(h:sz (aC P az) ag H=D r):aC P az 47 [ag] H=D r:=cO N (S:=λG=>sz G ag H) Tryd.func47 (λG=>dN ((aP ah ((aP ah (K4 G N) ((aP ah ((dc ah ((aP ah ((dt ah (aH _) ((aP ah ((dt ah (aH _) ((aP ah (K5 G N) (aH _))))) (aH _))))) (aH _))))) (aH _))))) (aH _))) (by delta sz;generalize lX G=a;revert a;refine id ?_;intro a;kernel_rfl)) h
def sj(G:ay)(ag:aa)(H:ae):O:=bS H (dS (H).next ag) λav a=>j (aK P 40 av 1) λn=>j (an P a 3 n) λo=>bf P .max [3,3] [o,I J 0] a λbp=>bf P .min [3,3] [bp,I J 3] a λi=>aI a (G 54 [Y [91],i] a) λp e=>aI e (G 54 [Y [93],i] e) λl h=>j (aK P 40 av 0) λc=>j (an P h 9 c) λd=>j (aq P .add 9 U p d) λk=>j (aq P .add 9 U k l) λm=>bif ((bj (an P a 9 c) d&&(bj (an P e 9 c) d&&bj (an P h 9 c) d))&&X)then(D (m,h))else Z
def Jv(N:Nat){ag:aa}{H:ae}{r:aa×ae}(h:sj (aC P az) ag H=D r):aC P az 20 [ag] H=D r:=cO N (S:=λG=>sj G ag H) Tryd.func20 (λ_=>by delta sj;kernel_rfl) h
def lS(G:ay)(av A:aa)(H:ae):O:=j (aK P 45 av 0) λB=>j (an P H 3 B) λE=>aI H (G 46 [E] H) λl a=>j (aq P .neq 9 X l (Y [])) λF=>aW (D F) (j (aK P 45 av 0) λn=>j (an P a 3 n) λo=>aI a (G 47 [o] a) λk c=>j (an P c 45 A) λp=>aI c (G 44 [p,k] c) λq d=>j (aK P 45 av 4) λe=>j (an P d 41 e) λh=>aI d (G 41 [h,I J 1] d) λw i=>j (aq P .add 3 X k (I J 1)) λx=>aI i (G 44 [w,x] i) λy m=>j (aq P .add 9 X q (Y [32])) λs=>j (aq P .add 9 U s l) λu=>j (aq P .add 9 X u (Y [32])) λv=>j (aq P .add 9 U v y) λz=>bif ((bj (an P c 41 e) h&&(bj (an P d 41 e) h&&X))&&X)then(D (z,m))else Z) (D ((Y []),a))
def Kz(G:ay)(N:Nat):∀ad H,bo P G N (ak (ak (ak (bs Tryd.f16)))) (bh Tryd.f16) [] (bh Tryd.f16) ad H=lS G (ad 1) (ad 3) H:=by
 refine bK (aH _) λad H=> ?_
 delta lS;kernel_rfl
def kZ(G:ay)(av c h:aa)(H:ae):O:=aW (D h) (j (aK P 45 av 0) λi=>j (an P H 3 i) λk=>aI H (G 46 [k] H) λl a=>j (an P a 45 c) λd=>aI a (G 44 [d,I J 6] a) λm e=>j (aq P .add 9 U l m) λn=>bif ((bj (an P H 45 c) d&&(bj (an P a 45 c) d&&X))&&X)then(D (n,e))else Z) (lS G av c H)
def KA(G:ay)(N:Nat):∀ad H,bo P G N (ak (ak (ak (ak (ak (ak (ak (ak (ak (ak (ak (ak (ak (ak (ak (ak (ak (ak (ak (ak (ak (ak (ak (a6 (ak (a6 (ak (ak (bs Tryd.f16))))))))))))))))))))))))))))) (λad H=>lS G (ad 1) (ad 3) H) [(0,(λad H=>lS G (ad 1) (ad 3) H))] (bh Tryd.f16) ad H=kZ G (ad 1) (ad 3) (ad 86) H:=by
 refine bK (aH _) λad H=> ?_
 delta kZ;generalize lS G=a;revert a;refine id ?_;intro a;kernel_rfl
def qI(G:ay)(ag:aa)(H:ae):O:=bS H (dS (H).next ag) λav i=>j (aK P 45 av 4) λbp=>j (an P i 41 bp) λaP=>aI i (G 41 [aP,I J 0] i) λa0 v=>cg v [I J 0,I J 0,Y [],Y [],I J 0,aa.ar,I J 0,I J 0,I J 0,I J 0,I J 0] λe s=>a7 s (aV P s 45 e a0) λa=>j (aK P 45 av 0) λa8=>j (an P a 3 a8) λd=>j (aq P .eql 3 X d (I J 1)) λx=>aW (D x) (j (aK P 45 av 1) λy=>j (an P a 3 y) λz=>aI a (G 42 [z] a) λA c=>D (A,c)) (j (aq P .eql 3 X d (I J 2)) λB=>aW (D B) (j (aK P 45 av 1) λE=>j (an P a 3 E) λF=>j (aq P .neq 3 X F (I J 0)) λK=>aI a (G 43 [K] a) λL c=>D (L,c)) (j (aq P .eql 3 X d (I J 3)) λM=>aW (D M) (j (aK P 45 av 3) λN=>j (an P a 40 N) λQ=>aI a (G 20 [Q] a) λR c=>j (aq P .add 9 X (Y [110,117,108,108,32]) R) λS=>D (S,c)) (j (aq P .eql 3 X d (I J 4)) λT=>aW (D T) (j (aK P 45 av 2) λV=>j (an P a 9 V) λW=>D (W,a)) (j (aq P .eql 3 X d (I J 5)) λab=>aW (D ab) (j (an P a 45 e) λad=>aI a (G 44 [ad,I J 7] a) λaf c=>j (aq P .add 9 X af (Y [46])) λah=>j (aK P 45 av 2) λk=>j (an P c 9 k) λl=>j (aq P .add 9 U ah l) λai=>bif ((bj (an P a 9 k) l&&bj (an P c 9 k) l)&&X)then(D (ai,c))else Z) (j (aq P .eql 3 X d (I J 6)) λaj=>aW (D aj) (j (an P a 45 e) λak=>aI a (G 44 [ak,I J 7] a) λal c=>j (aK P 45 av 4) λm=>j (an P c 41 m) λn=>aI c (G 41 [n,I J 1] c) λao h=>aI h (G 16 [ao] h) λap w=>j (aq P .add 9 X al (Y [91])) λam=>j (aq P .add 9 U am ap) λau=>j (aq P .add 9 X au (Y [93])) λaw=>bif ((bj (an P a 41 m) n&&(bj (an P c 41 m) n&&X))&&X)then(D (aw,w))else Z) (j (aq P .eql 3 X d (I J 7)) λax=>aW (D ax) (j (aK P 45 av 4) λaB=>j (an P a 41 aB) λaC=>aI a (G 45 [aC] a) λaD c=>j (aK P 45 av 2) λo=>j (an P c 9 o) λp=>j (aq P .add 9 X p (Y [40])) λaz=>j (aq P .add 9 U az aD) λaE=>j (aq P .add 9 X aE (Y [41])) λaF=>bif ((bj (an P a 9 o) p&&bj (an P c 9 o) p)&&X)then(D (aF,c))else Z) (j (aq P .eql 3 X d (I J 8)) λaG=>aW (D aG) (j (aK P 45 av 3) λaH=>j (an P a 40 aH) λaJ=>aI a (G 20 [aJ] a) λaL c=>j (aq P .add 9 X (Y [110,101,119,32]) aL) λaM=>D (aM,c)) (j (aq P .eql 3 X d (I J 9)) λaN=>aW (D aN) (j (aK P 45 av 3) λaO=>j (an P a 40 aO) λaQ=>aI a (G 20 [aQ] a) λaR c=>j (an P c 45 e) λq=>aI c (G 16 [q] c) λaU h=>j (aq P .add 9 X (Y [110,101,119,32,91]) aR) λaS=>j (aq P .add 9 X aS (Y [93,40])) λaT=>j (aq P .add 9 U aT aU) λaX=>j (aq P .add 9 X aX (Y [41])) λaY=>bif ((bj (an P a 45 e) q&&(bj (an P c 45 e) q&&X))&&X)then(D (aY,h))else Z) (j (aq P .eql 3 X d (I J 10)) λaZ=>aW (D aZ) (j (an P a 45 e) λa1=>aI a (G 16 [a1] a) λa2 c=>j (aq P .add 9 X (Y [108,101,110,40]) a2) λa3=>j (aq P .add 9 X a3 (Y [41])) λa4=>D (a4,c)) (j (aq P .eql 3 X d (I J 11)) λa5=>aW (D a5) (D ((Y [114,101,97,100,40,41]),a)) (j (aq P .eql 3 X d (I J 12)) λu=>aW (D u) (kZ G av e u a) (j (aq P .eql 3 X d (I J 13)) λa6=>kZ G av e a6 a))))))))))))
def C2(N:Nat){ag:aa}{H:ae}{r:aa×ae}(h:qI (aC P az) ag H=D r):aC P az 16 [ag] H=D r:=cO N (S:=λG=>qI G ag H) Tryd.func16 (λG=>dN ((aP ah ((aP ah ((aP ah (Kz G N) ((aP ah ((dc ah ((aP ah ((dt ah (aH _) ((aP ah ((dt ah (aH _) ((aP ah ((dt ah (aH _) ((aP ah ((dt ah (aH _) ((aP ah ((dt ah (aH _) ((aP ah ((dt ah (aH _) ((aP ah ((dt ah (aH _) ((aP ah ((dt ah (aH _) ((aP ah ((dt ah (aH _) ((aP ah ((dt ah (aH _) ((aP ah ((dt ah (aH _) ((aP ah (KA G N) (aH _))))) (aH _))))) (aH _))))) (aH _))))) (aH _))))) (aH _))))) (aH _))))) (aH _))))) (aH _))))) (aH _))))) (aH _))))) (aH _))))) (aH _))))) (aH _))) (aH _))) (by delta qI;generalize kZ G=a;revert a;refine id ?_;intro a;kernel_rfl)) h
end
end
def BI{H:ae}{k:Int}:W (aC P az 47 [I J k] H) λv H'=>v= I J (c6 k)/\H'=H:=by
 refine cz (λ_=>JO 0) ?_;unfold sz lX oX np oY iJ;unfold c6;have i:∀m:Int,k=m->(k==m)=true:=λm h=>by simpa using h
 have cq:∀m:Int,k≠m->(k==m)=false:=λm h=>by simpa using h
 by_cases a:k=24
 ·simp-implicitDefEqProofs(disch:=try exact al)only[bf,br,c5,i _ a];refine⟨_,_,rfl,?_,rfl⟩;rw[if_pos a];rfl
 by_cases c:k=23
 ·simp-implicitDefEqProofs(disch:=try exact al)only[bf,br,c5,cq _ a,i _ c];refine⟨_,_,rfl,?_,rfl⟩;rw[if_neg a,if_pos c];rfl
 by_cases l:19<=k/\k<=22
 ·have:k=19\/k=20\/k=21\/k=22:=af;rcases this with rfl|rfl|rfl|rfl<;>exact⟨_,_,rfl,rfl,rfl⟩
 by_cases e:k=14\/k=15
 ·rcases e with rfl|rfl<;>exact⟨_,_,rfl,rfl,rfl⟩
 by_cases j:16<=k/\k<=18
 ·have:k=16\/k=17\/k=18:=af;rcases this with rfl|rfl|rfl<;>exact⟨_,_,rfl,rfl,rfl⟩
 by_cases d:k=12\/k=13
 ·rcases d with rfl|rfl<;>exact⟨_,_,rfl,rfl,rfl⟩
 ·simp-implicitDefEqProofs(disch:=try exact al)only[bf,br,c5,cq 24 af,cq 23 af,cq 19 af,cq 20 af,cq 21 af,cq 22 af,cq 14 af,cq 15 af,cq 16 af,cq 17 af,cq 18 af,cq 12 af,cq 13 af];refine⟨_,_,rfl,?_,rfl⟩;rw[if_neg a,if_neg c,if_neg l,if_neg e,if_neg j,if_neg d];rfl
def L7{H:ae}{k:Int}(h:14<=k)(ba:k<=24):W (aC P az 46 [I J k] H) λv H'=>v= Y (gv k)/\H'=H:=by
 refine cz (λ_=>vI 0) ?_;have a:k=14\/k=15\/k=16\/k=17\/k=18\/k=19\/k=20\/k=21\/k=22\/k=23\/k=24:=af;unfold qM nn;rcases a with rfl|rfl|rfl|rfl|rfl|rfl|rfl|rfl|rfl|rfl|rfl<;>exact⟨_,_,rfl,rfl,rfl⟩
def Di{H:ae}{k:Int}(h:k=12\/k=13):W (aC P az 46 [I J k] H) λv H'=>v= Y (bif k==12 then[45]else[33])/\H'=H:=by
 refine cz (λ_=>vI 0) ?_;unfold qM nn;rcases h with rfl|rfl<;>exact⟨_,_,rfl,rfl,rfl⟩
def CL(x:aJ):∀n,Lib.repeatL x n=(List.replicate n x).flatten
 |0=>rfl
 |n+1=>by rw[Lib.repeatL,CL x n,List.replicate_succ,List.flatten_cons]
def vz{H:ae}{s:aJ}{n:Nat}(h:s.length*n<=140737488355328)(a:n<=9223372036854775807):aC P az 54 [Y s,I J n] H=D (Y (List.replicate n s).flatten,H):=by
 refine lC ?_;show(if 0<=(n:Int)/\(n:Int)<=9223372036854775807/\s.length*(n:Int).toNat<=140737488355328 then D (aa.str (Lib.repeatL s (n:Int).toNat),H)else Z)=_;rw[Int.toNat_natCast,if_pos ⟨af,af,h⟩,CL]
def BO(a b:Int)(H:ae):b2 P H .max [3,3] [I J a,I J b]=D (I J (max a b)):=by
 simp[b2,rj];omega
def Iq(a b:Int)(H:ae):b2 P H .min [3,3] [I J a,I J b]=D (I J (min a b)):=by
 simp[b2,rk];omega
def type20{H:ae}{x:aJ}{z:Int}(i:0<=z)(j:z<=3)(k:x.length<=100):W (aC P az 20 [.agg [Y x,I J z]] H) λv H'=>v= Y (flat (cX x z))/\aO H H':=by
 refine cz (λ_=>Jv 0) ?_;have d:∀l,dS l (.agg [Y x,I J z])=D (.ptr l 0 0,.row U 2 [[Y x,I J z]]):=λl=>hh l _ rfl
 have di:=ae.bC H (.row U 2 [[Y x,I J z]]);obtain⟨n,rfl⟩:∃n:Nat,z=n:=⟨z.toNat,af⟩;have m1:max (n:Int) 0=n:=af;have m2:min (n:Int) 3=n:=af;have e:∀H,aC P az 54 [Y [91],I J n] H=D (Y (List.replicate n [91]).flatten,H):=λH=>vz (by simp only[List.length_cons,List.length_nil];omega) af
 have h:∀H,aC P az 54 [Y [93],I J n] H=D (Y (List.replicate n [93]).flatten,H):=λH=>vz (by simp only[List.length_cons,List.length_nil];omega) af
 have m:((List.replicate n ([91]:aJ)).flatten).length=n:=by simp
 have o:((List.replicate n ([93]:aJ)).flatten).length=n:=by simp
 have a:aq P .add 9 U (Y (List.replicate n [91]).flatten) (Y x)=D (Y ((List.replicate n [91]).flatten++x)):=cV af;have c:aq P .add 9 U (Y ((List.replicate n [91]).flatten++x)) (Y (List.replicate n [93]).flatten)=D (Y ((List.replicate n [91]).flatten++x++(List.replicate n [93]).flatten)):=cV (by rw[List.length_append];omega);rw[sj,ud];simp-implicitDefEqProofs(disch:=try exact al)only[reduceAdd,reduceLeDiff,reduceIte,ax,d,di,bf,BO,Iq,m1,m2,e,h,eI,a,c,bk];exact bb.2 ⟨by rw[Int.toNat_natCast];unfold gM;rw[List.append_assoc],aO.push _ _⟩
def rH{H:ae}{l i n:Nat}{cap:Option Nat}{ro:Bool}{els:List (List aa)}{j:Nat}{z:Int}(p:z=j)(q:j<n){a:bM}{kv:aa}(h:kv.one=X)(e:H.get l=D (.row ro 11 els))(c:els[i+j]? =D (a.cells kv)):
  W (aC P az 41 [.aA l i n 11 cap,I J z] H) λv H'=>v= .agg (a.cells kv)/\aO H H':=by
 subst p;refine cz (λ_=>vH 0) ?_;have k:¬((n:Int)<=(j:Int)):=af;have m:(j:Int)<(n:Int):=af;have d:(0:Int)<=(j:Int):=af;have o:((j:Int)).toNat=j:=af;have g1:∀b,(H.push b).get l=D (.row ro 11 els):=λb=>(aO.push H b).get e
 simp only[bM.cells]at c ⊢;unfold oU;simp-implicitDefEqProofs(disch:=try exact al)only[reduceAdd,reduceLeDiff,reduceIte,ax,k,m,d,o,g1,c,h,decide_false];exact bb.2 ⟨rfl,aO.push _ _⟩
def b8.pO{H:ae}{ok:Nat->Prop}{ks:List aL}{kv:aa}(h:b8 H ok ks kv)(H':ae):b2 P H' .len [41] [kv]=D (I J ks.length):=by
 rcases h with⟨rfl,e⟩|⟨l,i,cap,ro,els,rfl,_⟩|⟨l,i,cap,rfl,e⟩
 ·rw[e];exact qg
 ·generalize ks.length=n;exact lJ
 ·rw[e];exact lJ
def AR{H:ae}{ok:Nat->Prop}{ks:List aL}{kv:aa}(h:b8 H ok ks kv)(q:ks.length<=1000000000):W (aC P az 41 [kv,I J 0] H) λv H'=>∃b c,v= .agg (bM.cells b c)/\c.one=X/\(∀cx d r,ks= .mk cx d::r->b=cx/\b8 H ok d c)/\aO H H':=by
 cases ks with
 |nil=>
  refine cz (λ_=>vH 0) ?_;have o:∀H',b2 P H' .len [41] [kv]=D (I J 0):=λH'=>h.pO H'
  have m:(0:Int)<=0:=af;unfold oU;simp-implicitDefEqProofs(disch:=try exact al)only[reduceAdd,reduceLeDiff,reduceIte,ax,o,m,decide_true];exact bb.2 ⟨{kind:=0,pos:=0},.ar,rfl,rfl,λ_ _ _ h=>(by cases h),aO.push _ _⟩
 |cons e r=>
  obtain⟨a,es⟩:=e;obtain⟨l,i,cap,ro,els,c,rfl,g1,aZ,k⟩:=h.iZ (n:=r.length+1) (by simp) (j:=0) rfl;refine(rH (j:=0) rfl af k.eb g1 aZ).mono ?_;rintro v H' ⟨rfl,p⟩;exact⟨a,c,rfl,k.eb,λcx d r h=>by cases h;exact⟨rfl,k⟩,p⟩
def q9(e:aL):Prop:=∀(d m:Nat),cm d m e->cE e<=1000000000->∀(a:bM) (ks:List aL),e= .mk a ks->∀(H:ae) (ok:Nat->Prop) (kv:aa),b8 H ok ks kv->eR.gP H->W (aC P az 16 [.agg (a.cells kv)] H) λr H'=>r= Y (flat (bm e))/\aO H H'
def MW{H:ae}{a:bM}{ks:List aL}{kv:aa}{m:Nat}(p:kv.one=X)(q:∀H',aO H H'->W (aC P az 16 [.agg (a.cells kv)] H') λr j=>r= Y (flat (bm (.mk a ks)))/\aO H' j)(s:(flat (bm (.mk a ks))).length<=1000000000):
  W (aC P az 44 [.agg (a.cells kv),I J m] H) λr H'=>r= Y (flat (cl m (.mk a ks)))/\aO H H':=by
 refine cz (λ_=>JM 0) ?_;have i:∀l,dS l (.agg (a.cells kv))=D (.ptr l 0 0,.row U 11 [a.cells kv]):=λl=>hh l _ (by simp only[bM.cells,List.all_cons,List.all_nil,gH,hq,p,Bool.and_self])
 have pp:=aO.push H (.row U 11 [a.cells kv]);have di:=ae.bC H (.row U 11 [a.cells kv]);have e:=λH' (h:aO H H')=>q H' h
 simp only[bM.cells]at i pp di e ⊢;unfold sx;simp-implicitDefEqProofs(disch:=try exact al)only[reduceAdd,reduceLeDiff,reduceIte,ax,i];refine aN BI ?_;rintro _ _ ⟨rfl,rfl⟩;refine⟨bk _,?_⟩;by_cases hm:((c6 a.kind:Nat):Int)<(m:Int)
 ·have d:(aL.mk a ks).cr<m:=by unfold aL.cr aL.kind;simp only;omega
  simp-implicitDefEqProofs(disch:=try exact al)only[bf,br,c5,Nat.reduceAdd,Nat.reduceLeDiff,reduceIte,aa.cells,cI,dA,an,cD,di,hm,decide_true];refine aN (e _ pp) ?_;rintro _ k ⟨rfl,c⟩;refine⟨c.1,?_⟩;have n:aq P .add 9 X (Y [40]) (Y (flat (bm (.mk a ks))))=D (Y (40::flat (bm (.mk a ks)))):=jy _ _ _ _ (by simp only[List.length_cons,List.length_nil];omega);have o:aq P .add 9 X (Y (40::flat (bm (.mk a ks)))) (Y [41])=D (Y (40::flat (bm (.mk a ks))++[41])):=jy _ _ _ _ (by simp only[List.length_cons,List.length_nil];omega);simp only[n,o,dG];exact bb.2 ⟨by rw[vj d,cT,c3];rfl,pp.trans c⟩
 ·have d:¬(aL.mk a ks).cr<m:=by unfold aL.cr aL.kind;simp only;omega
  simp-implicitDefEqProofs(disch:=try exact al)only[bf,br,c5,Nat.reduceAdd,Nat.reduceLeDiff,reduceIte,aa.cells,cI,dA,an,cD,di,hm,decide_false];refine aN (e _ pp) ?_;rintro _ k ⟨rfl,c⟩;refine⟨c.1,?_⟩;exact bb.2 ⟨by rw[r1 d],pp.trans c⟩
def GJ:∀(f n:Nat),n<=f->∀(g:Nat) (acc:aJ),n<10^(g+1)->iV (g+1) n acc=Lib.decDigits n++acc:=by
 intro f
 induction f with
 |zero=>
  intro n c g acc _;obtain rfl:n=0:=af;rw[iV,Lib.decDigits];rfl
 |succ f e=>
  intro n c g acc a;rw[iV,Lib.decDigits];by_cases h:n<10
  ·rw[dif_pos h,if_pos af,Nat.mod_eq_of_lt h];rfl
  ·rw[dif_neg h,if_neg af];have d:n/10<=f:=af;cases g with
   |zero=>simp at a;omega
   |succ g=>
    rw[e (n/10) d g _ (by rw[Nat.pow_succ]at a;omega)];simp
def hE.leaf{B:Nat}(a:bM):hE B (.mk a []):=by rw[hE,fC];exact⟨Nat.zero_le _,trivial⟩
def hE.one{B:Nat}(c:2<=B)(a:bM){e:aL}(h:hE B e):hE B (.mk a [e]):=by
 rw[hE,fC,fC];exact⟨by simp;omega,h,trivial⟩
def hE.two{B:Nat}(c:2<=B)(a:bM){e f:aL}(h:hE B e)(ba:hE B f):hE B (.mk a [e,f]):=by
 rw[hE,fC,fC,fC];exact⟨by simp;omega,h,ba,trivial⟩
def fC.append{B:Nat}{e:aL}(h:hE B e):∀{l:List aL},fC B l->fC B (l++[e])
 |[],_=>by simp only[List.nil_append];rw[fC,fC];exact⟨h,trivial⟩
 |x::xs,a=>by
  rw[fC]at a;simp only[List.cons_append];rw[fC];exact⟨a.1,fC.append h a.2⟩
def Gm{α β:Type}{x:Option α}{f:α->Option β}{b:β}(h:x.bind f=D b):∃a,x=D a/\f a=D b:=cR.1 h
def A2(T:List Tok)(s:aw):left T s<=T.length:=by unfold left;split<;>omega
def eS.same{H:ae}{v:aa}{T:List Tok}(h:eS H v T):bj (D v) v=true:=by
 rcases h with⟨rfl,_⟩|⟨l,i,cap,rfl,_⟩
 ·exact vu
 ·exact kS _ _ _ _ _
def cu.below{H:ae}{ok:Nat->Prop}{e:aL}{v:aa}(h:cu H ok e v):cu H (λl=>ok l/\l<H.next) e v:=cu.aX (λ_ _ _ h g=>⟨⟨h,ae.aS g⟩,g⟩) e v h
def tj.fin{ok:Nat->Prop}{H bJ:ae}{r:Nat}{T:List Tok}{ao:aa}{s s':aw}{a:b1}{es:List aL}{b6:aa}{x:Nat}(e:bI H r T ao s)(m:b5 r H bJ)(d:bw bJ r ao s')(i:b8 bJ (λl=>ok l/\l≠x) es b6)(j:H.next<=x)(c:bO):
  tj ok H r T ao (.mk a es [] []) s' (.agg (a.cells b6 .ar .ar)) (bJ.set x c):=by
 have k:=e.rd.lt;have m':=m.cw (.inr j) c;refine⟨m',e.mut m' ?_,ln.2 ⟨b6,.ar,.ar,rfl,i.aX (c9.set _ (by simp) λl h=>h.1),c1.nil _ _,c1.nil _ _⟩⟩;unfold bw at d ⊢;rw[ae.get_set_other af];exact d
def dz.append{H:ae}{ok:Nat->Prop}:∀(es:List bE) (cs:List (List aa)) (e:bE) (c:List aa),dz H ok es cs->cs.length=es.length->d_ H ok e (.agg c)->dz H ok (es++[e]) (cs++[c])
 |[],[],e,c,_,_,h=>by
  simp only[List.nil_append];rw[dz,dz];exact⟨h,trivial⟩
 |[],_::_,e,c,_,a,_=>by simp at a
 |_::_,[],e,c,h,_,_=>by rw[dz]at h;exact h.elim
 |i::es,d::cs,e,c,h,a,he=>by
  rw[dz]at h;simp only[List.cons_append];rw[dz];exact⟨h.1,dz.append es cs e c h.2 (by simpa using a) he⟩
def wq:P.underlying 71=D (.slice 112):=ah
def xX:hf P 112=D 136:=ah
def tI:eE P 112=D (.agg [I J 0,Y [],Y [],I J 0,.ar,.ar,.ar,I J 0,I J 0]):=ah
def FX{H:ae}{L:Nat}{cs:List aa}{cap:Option Nat}{ro:Bool}(a:H.get L=D (.row ro 9 [cs])):cQ P H [71,71] .ar (.aA L 0 1 9 cap)=D (.aA H.next 0 1 9 Z,H.push (.row U 9 [cs])):=by
 simp[cQ,hk,iT,dw,wq,pb,xX,tI,hG,er,a,aa.cells]
def FY{H:ae}{L l n:Nat}{cs:List aa}{els:List (List aa)}{cap:Option Nat}{ro:Bool}(d:H.get L=D (.row ro 9 [cs]))(e:H.get l=D (.row U 9 els))(h:els.length=n)(i:n<=1000000000):cQ P H [71,71] (.aA l 0 n 9 Z) (.aA L 0 1 9 cap)=D (.aA H.next 0 (n+1) 9 Z,(H.set l .dead).push (.row U 9 (els++[cs]))):=by
 have a:(n+1)*136<=140737488355328:=af;have c:n+1<=9223372036854775807:=af;simp[cQ,hk,iT,dw,wq,pb,xX,tI,hG,er,d,e,aa.cells,h,a,c];rw[List.take_of_length_le af]
def Md(l:Nat)(cs:List aa)(h:cs.length=9)(a:cs.all aa.one=X):bV P l 71 1 [(0,.agg cs)]=D (.aA l 0 1 9 (D 1),.row U 9 [cs]):=by
 simp[bV,wq,pb,tI,aa.cells,ir,h,a,gH,hq,rZ]
def kE(n0:Nat)(H:ae)(l:List bE)(v:aa):Prop:=(v= .ar/\l=[])\/∃L els,v= .aA L 0 l.length 9 Z/\H.get L=D (.row U 9 els)/\n0<=L/\els.length=l.length/\dz H (λk=>n0<=k/\k≠L) l els
def kE.mut{n0 r:Nat}{H H':ae}{l:List bE}{v:aa}(h:kE n0 H l v)(m:b5 r H H')(j:r<n0):kE n0 H' l v:=by
 rcases h with h|⟨L,els,a,c,d,e,i⟩
 ·exact .inl h
 ·exact .inr ⟨L,els,a,m.get c af,d,e,dz.aX (dU.mut m af λ_ h=>h) _ _ i⟩
def kE.Dw{n0:Nat}{H:ae}{l:List bE}{v:aa}(h:kE n0 H l v):c1 H (bg n0) l v:=by
 rcases h with⟨rfl,rfl⟩|⟨L,els,a,c,d,i,e⟩
 ·exact c1.nil _ _
 ·exact .inr (.inl ⟨L,0,Z,U,els,a,d,c,by rw[List.drop_zero];exact dz.aX (dU.kO λ_ h=>h.1) _ _ e⟩)
def kE.app{n0 m:Nat}{H:ae}{l:List bE}{v:aa}(h:kE n0 H l v){e:bE}{cs:List aa}(he:d_ H (bg m) e (.agg cs))(hm:n0<=m)(x:∀L n c,v= .aA L 0 n 9 c->L<m)(z:n0<=H.next)(w:l.length<=1000000000):
  ∃p H',cQ P (H.push (.row U 9 [cs])) [71,71] v (.aA H.next 0 1 9 (D 1))=D (p,H')/\kE n0 H' (l++[e]) p/\cP (n0<= ·) H H'/\H.next+1<=H'.next:=by
 have o:=ae.bC H (.row U 9 [cs]);rcases h with⟨rfl,rfl⟩|⟨L,els,rfl,j,s,i,u⟩
 ·refine⟨_,_,FX o,.inr ⟨_,[cs],rfl,ae.bC _ _,by simp only[ae.bT];omega,rfl,?_⟩,(((aO.push _ _).bt _).mut _),by simp only[ae.bT];omega⟩;rw[List.nil_append,dz,dz];refine⟨d_.aX ⟨λk ro els a g=>⟨⟨by unfold bg at a;omega,?_⟩,((aO.push _ _).bt _).get g⟩,λk ro els a g=>⟨⟨by unfold bg at a;omega,?_⟩,((aO.push _ _).bt _).get g⟩⟩ e _ he,trivial⟩
  all_goals have:=ae.aS g;simp only[ae.bT];omega
 ·have y:=x L _ _ rfl;have A:=ae.aS j;have q:(H.push (.row U 9 [cs])).get L=D (.row U 9 els):=(aO.push _ _).get j;have d:∀k b,H.get k=D b->k≠L->(((H.push (.row U 9 [cs])).set L .dead).push (.row U 9 (els++[cs]))).get k=D b:=λk b g a=>by
   have:=ae.aS g;rw[ae.dp (by simp only[ae.dj,ae.bT];omega),ae.get_set_other af,ae.dp af];exact g
  refine⟨_,_,FY o q i w,.inr ⟨_,els++[cs],by rw[List.length_append];rfl,ae.bC _ _,by simp only[ae.dj,ae.bT];omega,by simp[i],?_⟩,?_,by simp only[ae.dj,ae.bT];omega⟩
  ·refine dz.append _ _ _ _ (dz.aX ⟨λk ro es a g=>⟨⟨a.1,?_⟩,d _ _ g a.2⟩,λk ro es a g=>⟨⟨a.1,?_⟩,d _ _ g a.2⟩⟩ _ _ u) i (d_.aX ⟨λk ro es a g=>⟨⟨by unfold bg at a;omega,?_⟩,d _ _ g (by unfold bg at a;omega)⟩,λk ro es a g=>⟨⟨by unfold bg at a;omega,?_⟩,d _ _ g (by unfold bg at a;omega)⟩⟩ e _ he)
   all_goals have:=ae.aS g;simp only[ae.dj,ae.bT];omega
  ·exact(((aO.push _ _).mut _).cw (.inl s) _).bt _
def df(H:ae)(ok:Nat->Prop)(H':ae)(ok':Nat->Prop):Prop:=∀l b,ok l->H.get l=D b->ok' l/\H'.get l=D b
def df.s{H H':ae}{ok ok':Nat->Prop}(h:df H ok H' ok'):dU H ok H' ok':=⟨λl _ _ a b=>h l _ a b,λl _ _ a b=>h l _ a b⟩
def df.le{H:ae}{ok ok':Nat->Prop}(h:∀l,ok l->ok' l):df H ok H ok':=λl _ a b=>⟨h l a,b⟩
def df.mut{H H':ae}{ok:Nat->Prop}{S:Nat->Prop}(m:cP S H H')(h:∀l,ok l->¬S l):df H ok H' ok:=λl _ a b=>⟨a,m.get b (h l a)⟩
def df.aM{H H':ae}{ok:Nat->Prop}(m:aO H H'):df H ok H' ok:=λ_ _ a b=>⟨a,m.get b⟩
def df.trans{H1 d e:ae}{a b c:Nat->Prop}(h:df H1 a d b)(k:df d b e c):df H1 a e c:=λl x y z=>k l x (h l x y z).1 (h l x y z).2
structure hC(α:Type) where
 esz:Nat
 V:ae->(Nat->Prop)->α->List aa->Prop
 len:∀{H ok a cs},V H ok a cs->cs.length=esz/\cs.all aa.one=true
 aX:∀{H ok H' ok'} {a:α} {cs},df H ok H' ok'->V H ok a cs->V H' ok' a cs
section
variable {α:Type}{K:hC α}{H H':ae}{ok ok':Nat->Prop}
def c0(K:hC α)(ok:Nat->Prop)(H:ae)(l:List α)(v:aa):Prop:=(v= .ar/\l=[])\/∃L els,v= .aA L 0 l.length K.esz Z/\ok L/\H.get L=D (.row U K.esz els)/\els.length=l.length/\∀(i:Nat) (a:α),l[i]? =D a->∃cs,els[i]? =D cs/\K.V H (λk=>ok k/\k≠L) a cs
def dH(K:hC α)(H:ae)(ok:Nat->Prop)(l:List α)(v:aa):Prop:=(v= .ar/\l=[])\/(∃L i cap ro els,v= .aA L i l.length K.esz (Option.map (· +l.length) cap)/\ok L/\H.get L=D (.row ro K.esz els)/\∀(j:Nat) (a:α),l[j]? =D a->∃cs,els[i+j]? =D cs/\K.V H ok a cs)\/∃L i cap,v= .aA L i 0 K.esz cap/\l=[]
def c0.one{l:List α}{v:aa}(h:c0 K ok H l v):v.one=true:=by
 rcases h with⟨rfl,_⟩|⟨L,els,rfl,_⟩<;>rfl
def dH.one{l:List α}{v:aa}(h:dH K H ok l v):v.one=true:=by
 rcases h with⟨rfl,_⟩|⟨L,i,cap,ro,els,rfl,_⟩|⟨L,i,cap,rfl,_⟩<;>rfl
def c0.nil:c0 K ok H [] .ar:= .inl ⟨rfl,rfl⟩
def dH.nil:dH K H ok [] .ar:= .inl ⟨rfl,rfl⟩
def c0.aX{l:List α}{v:aa}(p:df H ok H' ok')(h:c0 K ok H l v):c0 K ok' H' l v:=by
 rcases h with h|⟨L,els,j,d,e,m,n⟩
 ·exact .inl h
 ·refine .inr ⟨L,els,j,(p _ _ d e).1,(p _ _ d e).2,m,λi a o=> ?_⟩;obtain⟨cs,aZ,q⟩:=n i a o;exact⟨cs,aZ,K.aX (λk b c g=>⟨⟨(p _ _ c.1 g).1,c.2⟩,(p _ _ c.1 g).2⟩) q⟩
def dH.aX{l:List α}{v:aa}(p:df H ok H' ok')(h:dH K H ok l v):dH K H' ok' l v:=by
 rcases h with h|⟨L,i,cap,ro,els,e,c,d,k⟩|h
 ·exact .inl h
 ·refine .inr (.inl ⟨L,i,cap,ro,els,e,(p _ _ c d).1,(p _ _ c d).2,λj a m=> ?_⟩);obtain⟨cs,aZ,n⟩:=k j a m;exact⟨cs,aZ,K.aX p n⟩
 ·exact .inr (.inr h)
def c0.aA{l:List α}{v:aa}(h:c0 K ok H l v):dH K H ok l v:=by
 rcases h with h|⟨L,els,c,d,e,n,i⟩
 ·exact .inl h
 ·refine .inr (.inl ⟨L,0,Z,U,els,c,d,e,λj a k=> ?_⟩);obtain⟨cs,aZ,m⟩:=i j a k;exact⟨cs,by rw[Nat.zero_add];exact aZ,K.aX (df.le λ_ h=>h.1) m⟩
structure jV(t e esz:Nat):Prop where
 un:P.underlying t=some (.slice e)
 ts:cn P e=some esz
 fY:∃b,hf P e=some b/\b<=200
 tH:∃z,eE P e=some z/\z.cells.length=esz/\z.cells.all aa.one=true
 pos:0<esz/\esz<=100
def F0{t e esz:Nat}(y:jV t e esz){L:Nat}{cs:List aa}{cap:Option Nat}{ro:Bool}(d:H.get L=D (.row ro esz [cs])):cQ P H [t,t] .ar (.aA L 0 1 esz cap)=D (.aA H.next 0 1 esz Z,H.push (.row U esz [cs])):=by
 obtain⟨b,c,j⟩:=y.fY;obtain⟨z,h,i,_⟩:=y.tH;have a:b<=140737488355328:=af;simp[cQ,hk,iT,dw,y.un,y.ts,c,h,i,y.pos.1,hG,er,d,a]
def F1{t e esz:Nat}(y:jV t e esz){L l n:Nat}{cs:List aa}{els:List (List aa)}{cap:Option Nat}{ro:Bool}(i:H.get L=D (.row ro esz [cs]))(j:H.get l=D (.row U esz els))(k:els.length=n)(p:n<=1000000000):cQ P H [t,t] (.aA l 0 n esz Z) (.aA L 0 1 esz cap)=D (.aA H.next 0 (n+1) esz Z,(H.set l .dead).push (.row U esz (els++[cs]))):=by
 obtain⟨b,h,d⟩:=y.fY;obtain⟨z,m,o,_⟩:=y.tH;have a:(n+1)*b<=140737488355328:=Nat.le_trans (Nat.mul_le_mul_left (n+1) d) af;have c:n+1<=9223372036854775807:=af;simp[cQ,hk,iT,dw,y.un,y.ts,h,m,o,y.pos.1,hG,er,i,j,k,a,c];rw[List.take_of_length_le af]
def qV{t e esz:Nat}(y:jV t e esz)(l:Nat){cs:List aa}(h:cs.length=esz)(d:cs.all aa.one=X):bV P l t 1 [(0,.agg cs)]=D (.aA l 0 1 esz (D 1),.row U esz [cs]):=by
 obtain⟨z,i,j,k⟩:=y.tH;have n:1*esz<=16777216:=by have:=y.pos.2;omega
 have a:esz<=16777216:=by have:=y.pos.2;omega
 have c:(aa.agg cs).cells=cs:=rfl;simp[bV,y.un,y.ts,i,j,ir,h,d,a,c];have m:∀x∈z.cells,x.one=true:=by simpa using k
 rw[decide_eq_true m];rfl
def c0.app{t e:Nat}(y:jV t e K.esz){l:List α}{v:aa}(h:c0 K ok H l v){okE:Nat->Prop}{a:α}{cs:List aa}(he:K.V H okE a cs)(m:∀k b,okE k->H.get k=D b->ok' k/\∀L,v= .aA L 0 l.length K.esz Z->k≠L)(j:∀k b,ok k->H.get k=D b->ok' k)(s:ok' (H.next+1))(G:l.length<=1000000000):
  ∃w H',cQ P (H.push (.row U K.esz [cs])) [t,t] v (.aA H.next 0 1 K.esz (D 1))=D (w,H')/\c0 K ok' H' (l++[a]) w/\H.next+1<=H'.next/\(∀k,k<H.next->(∀L,v= .aA L 0 l.length K.esz Z->k≠L)->H'.get k=H.get k):=by
 have p:=ae.bC H (.row U K.esz [cs]);rcases h with⟨rfl,rfl⟩|⟨L,els,rfl,Q,n,o,B⟩
 ·refine⟨_,_,F0 y p,.inr ⟨_,[cs],rfl,by simpa only[ae.bT]using s,ae.bC _ _,rfl,λi b d=> ?_⟩,by simp only[ae.bT];omega,λk j _=> ?_⟩
  ·rcases i with _|i
   ·cases d;refine⟨cs,rfl,K.aX (λk b j g=> ?_) he⟩;have:=ae.aS g;exact⟨⟨(m k b j g).1,by simp only[ae.bT];omega⟩,((aO.push _ _).bt _).get g⟩
   ·simp at d
  ·rw[ae.dp (by simp only[ae.bT];omega),ae.dp af]
 ·have R:=ae.aS n;have A:=(aO.push H (.row U K.esz [cs])).get n;have u:∀k b,H.get k=D b->k≠L->(((H.push (.row U K.esz [cs])).set L .dead).push (.row U K.esz (els++[cs]))).get k=D b:=λk b g j=>by
   have:=ae.aS g;rw[ae.dp (by simp only[ae.dj,ae.bT];omega),ae.get_set_other af,ae.dp af];exact g
  refine⟨_,_,F1 y p A o G,.inr ⟨_,els++[cs],by rw[List.length_append];rfl,by simpa only[ae.dj,ae.bT]using s,ae.bC _ _,by simp[o],λi b d=> ?_⟩,by simp only[ae.dj,ae.bT];omega,λk j M=> ?_⟩
  ·by_cases F:i<l.length
   ·rw[List.getElem?_append_left F]at d;obtain⟨c,aZ,O⟩:=B i b d;refine⟨c,by rw[List.getElem?_append_left af];exact aZ,K.aX (λk x q g=> ?_) O⟩;have:=ae.aS g;exact⟨⟨j k x q.1 g,by simp only[ae.dj,ae.bT];omega⟩,u k x g q.2⟩
   ·rw[List.getElem?_append_right af]at d;have E:i-l.length=0:=by
     rcases N:i-l.length with _|z
     ·rfl
     ·rw[N]at d;simp at d
    rw[E]at d;cases d;refine⟨cs,by rw[List.getElem?_append_right af,show i-els.length=0 by omega];rfl,K.aX (λk x j g=> ?_) he⟩;have:=ae.aS g;exact⟨⟨(m k x j g).1,by simp only[ae.dj,ae.bT];omega⟩,u k x g ((m k x j g).2 L rfl)⟩
  ·rw[ae.dp (by simp only[ae.dj,ae.bT];omega),ae.get_set_other (by exactλe=>M L rfl e.symm),ae.dp af]
end
def od:hC aJ:=⟨1,λ_ _ s cs=>cs=[Y s],λh=>by rw[h];exact⟨rfl,rfl⟩,λ_ h=>h⟩
def BH:jV 50 9 1:=⟨ah,wm,⟨_,(by kernel_rfl:hf P 9=D 16),cp⟩,⟨_,(by kernel_rfl:eE P 9=D (Y [])),rfl,rfl⟩,cp⟩
def Dz:∀(els:List (List aa)) (l:List aJ),els.length=l.length->(∀(i:Nat) (a:aJ),l[i]? =D a->els[i]? =D [Y a])->lg els=D l
 |[],[],_,_=>rfl
 |[],_::_,h,_=>by cases h
 |_::_,[],h,_=>by cases h
 |e::els,s::l,j,h=>by
  have c:=h 0 s rfl;simp only[List.getElem?_cons_zero,aU]at c;subst c;rw[lg,Dz els l (by simpa using j) λi a d=>by simpa using h (i+1) a (by simpa using d)];rfl
def vV(l:Nat)(s:aJ):bV P l 50 1 [(0,Y s)]=D (.aA l 0 1 1 (D 1),.row U 1 [[Y s]]):=ah
def rG{H:ae}{ok:Nat->Prop}{l:List aJ}{v:aa}(h:c0 od ok H l v){sep:aJ}(o:l.length<=1000000000)(m:(Lib.join l sep).length<=140737488355328):aC P az 59 [v,Y sep] H=D (Y (Lib.join l sep),H):=by
 refine lC ?_;rcases h with⟨rfl,rfl⟩|⟨L,els,rfl,_,c,d,e⟩
 ·rfl
 ·have j:er H L 0 l.length 1=D els:=by
   unfold er;rw[c];show(if od.esz=1/\0+l.length<=els.length then D ((els.drop 0).take l.length)else Z)=_;rw[if_pos ⟨rfl,af⟩,List.drop_zero,List.take_of_length_le af]
  have aB:lg els=D l:=Dz els l d λi a k=>by
   obtain⟨cs,aZ,n⟩:=e i a k;rw[aZ,show cs=[Y a]from n]
  show(match er H L 0 l.length 1 with
   |some es=>(match lg es with
    |some xs=>if xs.length<=140737488355328/\(Lib.join xs sep).length<=140737488355328 then D (aa.str (Lib.join xs sep),H)else Z
    |none=>Z)
   |none=>Z)=_
  rw[j];simp only
  rw[aB];simp only
  rw[if_pos ⟨af,m⟩]
def uH:∀ks:List aL,Lib.join (ks.map λe=>flat (bm e)) [44,32]=flat (eA (c7 ks))
 |[]=>rfl
 |[e]=>by rw[List.map_cons,List.map_nil,Lib.join_one,c7,c7,eA]
 |e::f::r=>by
  have a:=uH (f::r);rw[List.map_cons,Lib.join_cons,List.map_cons,Lib.joinTail,List.map_cons,List.flatten_cons];rw[List.map_cons,Lib.join_cons,Lib.joinTail]at a;have c:c7 (e::f::r)=(e.cr,bm e)::(f.cr,bm f)::c7 r:=by rw[c7,c7]
  have d:c7 (f::r)=(f.cr,bm f)::c7 r:=by rw[c7]
  rw[c,eA,c3,cT,dV,<-d,<-a]
  ·simp only[List.append_assoc];rfl
  ·intro h;cases h
def c0.aM{α:Type}{K:hC α}{H H':ae}{ok:Nat->Prop}{l:List α}{v:aa}(h:c0 K ok H l v)(p:aO H H'):c0 K ok H' l v:=h.aX (df.aM p)
section
variable {N:Nat}{H0:ae}{L i n:Nat}{cap:Option Nat}{ro:Bool}{els:List (List aa)}{ok:Nat->Prop}
def Bz(E:H0.get L=D (.row ro 11 els))(F:eR.gP H0)(ai:n<=1000000000){all:List aL}(ag:(flat (eA (c7 all))).length<=1000000000):∀(es:List aL) (j k:Nat) (done:List aL) (v:aa) (H:ae),all=done++es->done.length=j->(∀e∈es,q9 e/\∃d,cm d 0 e)->(∀e∈es,cE e<=1000000000)->dd H0 ok es (els.drop (i+j))->n=j+es.length->es.length<k->aO H0 H->c0 od (λl=>H0.next<=l) H (done.map λe=>flat (bm e)) v->
  W (k5 (aC P az) N k v (.aA L i n 11 cap) (I J n) (I J j) H) λv H'=>v= Y (flat (eA (c7 all)))/\aO H0 H'
 |_,_,0,_,_,_,_,_,_,_,_,_,x,_,_=>af
 |[],j,k+1,done,v,H,m,B,aB,hw,he,o,x,pp,u=>by
  have w:¬((j:Int)<(n:Int)):=by simp at o;omega
  rw[List.append_nil]at m;subst m;have s:aC P az 59 [v,Y [44,32]] H=D (Y (flat (eA (c7 all))),H):=by
   rw[<-uH];exact rG u (by rw[List.length_map];simp at o;omega) (by rw[uH];omega)
  simp-implicitDefEqProofs(disch:=try exact al)only[k5,oV,nm,bf,br,c5,w,decide_false,s,eI,bk];exact bb.2 ⟨rfl,pp⟩
 | .mk a ks::es,j,k+1,done,v,H,m,B,aB,hw,he,o,x,pp,u=>by
  simp only[List.length_cons]at o x;have w:(j:Int)<(n:Int):=af;have am:((j:Int)).toNat=j:=af;have ab:(0:Int)<=(j:Int):=af;have av:IntKind.i64.wrap ((j:Int)+1)=((j+1:Nat):Int):=by rw[wrap_i64 af af];omega
  obtain⟨cs,aZ,ap,aq⟩:=he.cons;obtain⟨y,au,O⟩:=gO.1 ap;cases au;obtain⟨aG,d,an⟩:=aB _ (List.mem_cons_self ..);have g1:=pp.get E;have aj:=O.eb;have p:=pp.bt (.row U 11 [a.cells y]);have M:=aG d 0 an (hw _ (List.mem_cons_self ..)) a ks rfl _ ok y (O.aM p) (F.aM p);simp only[bM.cells]at aZ p M;simp-implicitDefEqProofs(disch:=try exact al)only[k5,oV,reduceAdd,reduceLeDiff,reduceIte,ax,w,ab,am,decide_true,g1,aZ,aj];refine aN M ?_;rintro _ c ⟨rfl,z⟩;refine⟨z.1,?_⟩;have q:=p.trans z;have A:=(u.aM (aO.push H (.row U 11 [a.cells y]))).aM z;have ak:bV P c.next 50 1 [(0,Y (flat (bm (.mk a ks))))]=D (.aA c.next 0 1 1 (D 1),.row U 1 [[Y (flat (bm (.mk a ks)))]]):=vV _ _
  have ay:done.length<=1000000000:=af;obtain⟨Q,H',s,R,S,b3⟩:=c0.app (K:=od) (ok':=λl=>H0.next<=l) BH A (okE:=λ_=>False) (a:=flat (bm (.mk a ks))) (cs:=[Y (flat (bm (.mk a ks)))]) rfl (λ_ _ h=>h.elim) (λ_ _ h _=>h) (by have:=q.1;show H0.next<=c.next+1;omega) (by rw[List.length_map];omega);have ao:aO H0 H':=by
   refine⟨by have:=q.1;omega,λl ah=> ?_⟩;have:=q.1;rw[b3 l af λL G ad=> ?_]
   ·exact q.2 l ah
   ·subst ad;rcases A with⟨rfl,_⟩|⟨L',_,rfl,aw,_⟩
    ·cases G
    ·cases G;omega
  have V:cQ P (c.push (.row U 1 [[Y (flat (bm (.mk a ks)))]])) [50,50] v (.aA c.next 0 1 1 (D 1))=D (Q,H'):=s;have T:(c.push (.row U 1 [[Y (flat (bm (.mk a ks)))]])).next<=H'.next:=by rw[ae.bT];exact S
  simp-implicitDefEqProofs(disch:=try exact al)only[bf,br,ak,V,eI,T,c5,av];exact Bz E F ai ag es (j+1) k (done++[.mk a ks]) Q H' (by rw[m,List.append_assoc];rfl) (by rw[List.length_append,B];rfl) (λe h=>aB e (List.mem_cons_of_mem _ h)) (λe h=>hw e (List.mem_cons_of_mem _ h)) (by rw[show i+(j+1)=i+j+1 by omega];exact aq) af af ao (by rw[List.map_append];exact R)
end
def Ih{H:ae}{ok:Nat->Prop}{ks:List aL}{kv:aa}(h:b8 H ok ks kv)(m:eR.gP H)(aB:∀e∈ks,q9 e/\∃d,cm d 0 e)(hw:∀e∈ks,cE e<=1000000000)(q:ks.length<=100000000)(o:(flat (eA (c7 ks))).length<=1000000000):W (aC P az 45 [kv] H) λv H'=>v= Y (flat (eA (c7 ks)))/\aO H H':=by
 refine cz (λ_=>JN (ks.length+1)) ?_;have k:=λH'=>h.pO H'
 rw[sy];simp-implicitDefEqProofs(disch:=try exact al)only[reduceAdd,reduceLeDiff,reduceIte,ax,k];by_cases c:ks.length=0
 ·obtain rfl:=List.length_eq_zero_iff.1 c;have n:¬((0:Int)<(0:Int)):=af;have j:aC P az 59 [.ar,Y [44,32]] H=D (Y [],H):=rG (ok:=λ_=>True) (l:=[]) (.inl ⟨rfl,rfl⟩) (Nat.zero_le _) (Nat.zero_le _);simp-implicitDefEqProofs(disch:=try exact al)only[k5,oV,nm,reduceAdd,reduceLeDiff,reduceIte,ax,n,decide_false,j,eI,Int.natCast_zero];exact bb.2 ⟨rfl,.refl _⟩
 ·rcases h with⟨_,a⟩|⟨L,i,cap,ro,els,rfl,_,g1,p⟩|⟨_,_,_,_,a⟩
  ·exact absurd a c
  ·exact Bz (N:=ks.length+1) g1 m af o ks 0 (ks.length+1) [] .ar H rfl rfl aB hw (by rw[Nat.add_zero];exact p) af af (.refl _) (.inl ⟨rfl,rfl⟩)
  ·exact absurd a c
open Classical in
def HM{H:ae}(c:eR.gP H){n:Int}(d:0<=n)(a:n<=9223372036854775807):aC P az 42 [I J n] H=D (Y (iV 20 n.toNat []),H):=by
 refine lC ?_;show(if-9223372036854775808<=n/\n<=9223372036854775807/\H.get 0=D (.row X 1 ji)then D (aa.str (Lib.itoa n),H)else Z)=_;rw[if_pos ⟨af,a,c.sS⟩];unfold Lib.itoa;rw[if_neg af,GJ n.toNat n.toNat (bk _) 19 [] (by have:=Ck;omega),List.append_nil]
def ze{H:ae}(b:Bool):aC P az 43 [.bool b] H=D (Y (bif b then[116,114,117,101]else[102,97,108,115,101]),H):=by
 refine lC ?_;show D (aa.str (Lib.formatBool b),H)=_;cases b<;>rfl
def bz:∀e:aL,q9 e
 | .mk a ks=>by
  have aB:∀e∈ks,q9 e:=λe he=>bz e
  intro d m aF hw bZ a7 he H ok kv O aG;cases he;have h:=aF.low (m':=0) (Nat.zero_le _);clear aF;have hlen:=om h;have aU:=O.eb;have aj:∀l,dS l (.agg (a.cells kv))=D (.ptr l 0 0,.row U 11 [a.cells kv]):=λl=>hh l _ (by simp only[bM.cells,List.all_cons,List.all_nil,gH,hq,aU,Bool.and_self])
  have pp:=aO.push H (.row U 11 [a.cells kv]);have di:=ae.bC H (.row U 11 [a.cells kv]);have ag:∀{S m':Nat} {b:bM} {i:List aL},aL.mk b i∈ks->cm S m' (.mk b i)->cE (.mk b i)<=1000000000/\∀(H':ae) (M:aa),b8 H' ok i M->aO H H'->W (aC P az 16 [.agg (b.cells M)] H') λr an=>r= Y (flat (bm (.mk b i)))/\aO H' an:=by
   intro S m' b i hm v;have hle:cE (.mk b i)<=b0 ks:=by
    clear aB hlen O hw h aj pp di
    induction ks with
    |nil=>cases hm
    |cons k r aZ=>
     rw[b0];rcases List.mem_cons.1 hm with rfl|hm
     ·omega
     ·have:=aZ hm;omega
   rw[cE]at hw;have aH:cE (.mk b i)<=1000000000:=af;exact⟨aH,λH' M ak aD=>aB _ hm S m' v aH b i rfl H' ok M ak (aG.aM aD)⟩
  have e_:∀{S m':Nat} {b:bM} {i:List aL} (n:Nat) {z:Int},z=n->aL.mk b i∈ks->cm S m' (.mk b i)->∀(H':ae) (M:aa),b8 H' ok i M->aO H H'->W (aC P az 44 [.agg (b.cells M),I J z] H') λr an=>r= Y (flat (cl n (.mk b i)))/\aO H' an:=by
   intro S m' b i n z aX hm v H' M ak aD;subst aX;obtain⟨B,q⟩:=ag hm v;have:=om v;exact MW ak.eb (λQ T=>q Q M (ak.aM T) (aD.trans T)) af
  have aR:ks.length<=1000000000:=by have:=p_ ks;rw[cE]at hw;omega
  refine cz (λ_=>C2 0) ?_;have ay:=AR (O.aM pp) aR;simp only[bM.cells]at aj pp di ay ⊢;rw[qI];simp-implicitDefEqProofs(disch:=try exact al)only[reduceAdd,reduceLeDiff,reduceIte,ax,aj];refine aN ay ?_;rintro _ Q ⟨b,G,rfl,bH,av,T⟩;refine⟨T.1,?_⟩;have V:=T.bt (.row U 11 [b.cells G]);have u:=pp.trans V;have s:=V.get di;have g3:=ae.bC Q (.row U 11 [b.cells G]);have N:∀cx i r,ks= .mk cx i::r->b=cx/\b8 (Q.push (.row U 11 [b.cells G])) ok i G:=λcx i r h=>⟨(av cx i r h).1,(av cx i r h).2.aM V⟩
  simp only[bM.cells]at V u s g3 N;clear ay av;simp-implicitDefEqProofs(disch:=try exact al)only[reduceAdd,reduceLeDiff,reduceIte,ax,bH,s];have am:=O.aM u;have aw:=aG.aM u;generalize Q.next=a9 at g3 ⊢
  generalize Q.push (.row U 11 [[I J b.kind,I J b.n,Y b.name,Y b.cf,I J b.c4,G,I J b.pos,I J b.sT,I J b.D7,I J b.pa,I J b.ref]])=ad at V u s g3 N am aw ⊢;clear T V aj pp di;generalize H.next=a8 at s ⊢
  clear Q;cases h with
  |par B q y=>omega
  | @int d m n p B q y=>
   have w:=HM aw q y;simp-implicitDefEqProofs(disch:=try exact al)only[reduceAdd,reduceLeDiff,reduceIte,ax,Int.reduceBEq,s,w,eI];refine bb.2 ⟨?_,u⟩;rw[eH];show _=aa.str (flat [.t ⟨2,[],n,0⟩]);simp[flat,bN.sW,sX]
  | @bool d m n p B q=>
   have w:aC P az 43 [.bool X] ad=D (Y [116,114,117,101],ad):=ze X;have A:aC P az 43 [.bool U] ad=D (Y [102,97,108,115,101],ad):=ze U;rcases q with rfl|rfl
   ·simp-implicitDefEqProofs(disch:=try exact al)only[reduceAdd,reduceLeDiff,reduceIte,ax,Int.reduceBEq,Int.reduceBNe,s,w,A,eI];exact bb.2 ⟨by rw[eH];rfl,u⟩
   ·simp-implicitDefEqProofs(disch:=try exact al)only[reduceAdd,reduceLeDiff,reduceIte,ax,Int.reduceBEq,Int.reduceBNe,s,w,A,eI];exact bb.2 ⟨by rw[eH];rfl,u⟩
  | @null d m x z p B q=>
   simp-implicitDefEqProofs(disch:=try exact al)only[reduceAdd,reduceLeDiff,reduceIte,ax,Int.reduceBEq,s];refine aN (type20 q.1 q.2.1 (by have:=gn q;omega)) ?_;rintro _ K ⟨rfl,o⟩;refine⟨o.1,?_⟩;have a2:=iD x z;have:=gn q;have:=q.2.1;have w:aq P .add 9 X (Y [110,117,108,108,32]) (Y (flat (cX x z)))=D (Y ([110,117,108,108,32]++flat (cX x z))):=cV (by simp only[List.length_cons,List.length_nil];omega);simp only[w,dG];exact bb.2 ⟨by rw[eH];rfl,u.trans o⟩
  | @var d m x p B q=>
   simp-implicitDefEqProofs(disch:=try exact al)only[reduceAdd,reduceLeDiff,reduceIte,ax,Int.reduceBEq,s];exact bb.2 ⟨by rw[eH];show _=aa.str (flat [ch x]);rw[iA,cY,List.append_nil],u⟩
  | @field d m x p e B q y=>
   obtain⟨cx,i⟩:=e;obtain⟨rfl,E⟩:=N _ _ _ rfl;rw[qs,cW]at hlen;have v:=e_ 7 rfl (by simp) y _ G E u;simp only[bM.cells]at v;simp-implicitDefEqProofs(disch:=try exact al)only[reduceAdd,reduceLeDiff,reduceIte,ax,Int.reduceBEq,s,g3];refine aN v ?_;rintro _ K ⟨rfl,o⟩;refine⟨o.1,?_⟩;have L:=o.get s;have:=eM q;have w:aq P .add 9 X (Y (flat (cl 7 (.mk b i)))) (Y [46])=D (Y (flat (cl 7 (.mk b i))++[46])):=cV (by simp only[List.length_cons,List.length_nil];omega);have A:aq P .add 9 U (Y (flat (cl 7 (.mk b i))++[46])) (Y x)=D (Y (flat (cl 7 (.mk b i))++[46]++x)):=cV (by simp only[List.length_append,List.length_cons,List.length_nil];omega)
   simp-implicitDefEqProofs(disch:=try exact al)only[reduceAdd,reduceLeDiff,reduceIte,ax,s,L,w,A];exact bb.2 ⟨by rw[qs,c3,cT,iA,cY];simp,u.trans o⟩
  | @item d m p e f B q y=>
   obtain⟨cx,i⟩:=e;obtain⟨c,cs⟩:=f;obtain⟨rfl,E⟩:=N _ _ _ rfl;obtain⟨l',aY,aJ,a0,aK,kw,rfl,au,aE,ah⟩:=am.iZ (n:=2) rfl (j:=1) rfl;rw[qt,cW,c_,cW]at hlen;have v:=e_ 7 rfl (by simp) q _ G E u;simp only[bM.cells]at v;simp-implicitDefEqProofs(disch:=try exact al)only[reduceAdd,reduceLeDiff,reduceIte,ax,Int.reduceBEq,s,g3];refine aN v ?_;rintro _ K ⟨rfl,o⟩;refine⟨o.1,?_⟩;have L:=o.get s;simp-implicitDefEqProofs(disch:=try exact al)only[reduceAdd,reduceLeDiff,reduceIte,ax,L];refine aN (rH (j:=1) rfl af ah.eb (o.get au) aE) ?_;rintro _ ao ⟨rfl,F⟩;refine⟨F.1,?_⟩;have aW:=(ag (by simp) y).2 ao kw (ah.aM (o.trans F)) ((u.trans o).trans F)
   refine aN aW ?_;rintro _ aI ⟨rfl,ai⟩;refine⟨ai.1,?_⟩;have w:aq P .add 9 X (Y (flat (cl 7 (.mk b i)))) (Y [91])=D (Y (flat (cl 7 (.mk b i))++[91])):=cV (by simp only[List.length_cons,List.length_nil];omega);have A:aq P .add 9 U (Y (flat (cl 7 (.mk b i))++[91])) (Y (flat (bm (.mk c cs))))=D (Y (flat (cl 7 (.mk b i))++[91]++flat (bm (.mk c cs)))):=cV (by simp only[List.length_append,List.length_cons,List.length_nil];omega);have R:aq P .add 9 X (Y (flat (cl 7 (.mk b i))++[91]++flat (bm (.mk c cs)))) (Y [93])=D (Y (flat (cl 7 (.mk b i))++[91]++flat (bm (.mk c cs))++[93])):=cV (by simp only[List.length_append,List.length_cons,List.length_nil];omega)
   simp-implicitDefEqProofs(disch:=try exact al)only[reduceAdd,reduceLeDiff,reduceIte,ax,s,L,w,A,R];exact bb.2 ⟨by rw[qt,c3,cT,c3,cT,cY];simp,((u.trans o).trans F).trans ai⟩
  | @call d m x p l B q y=>
   have:=eM q;rw[cE]at hw hlen;simp only at hw hlen;rw[qq,lI,c_,cW]at hlen;have a5:=p_ ks;have aS:(flat (eA (c7 ks))).length<=1000000000:=af;have v:=Ih am aw (λe he=>⟨aB e he,_,y e he⟩) (λe he=>by
    obtain⟨c,cs⟩:=e;exact(ag he (y _ he)).1) af aS
   simp-implicitDefEqProofs(disch:=try exact al)only[reduceAdd,reduceLeDiff,reduceIte,ax,Int.reduceBEq,s];refine aN v ?_;rintro _ K ⟨rfl,o⟩;refine⟨o.1,?_⟩;have L:=o.get s;have w:aq P .add 9 X (Y x) (Y [40])=D (Y (x++[40])):=cV (by simp only[List.length_cons,List.length_nil];omega);have A:aq P .add 9 U (Y (x++[40])) (Y (flat (eA (c7 ks))))=D (Y (x++[40]++flat (eA (c7 ks)))):=cV (by simp only[List.length_append,List.length_cons,List.length_nil];omega);have R:aq P .add 9 X (Y (x++[40]++flat (eA (c7 ks)))) (Y [41])=D (Y (x++[40]++flat (eA (c7 ks))++[41])):=cV (by simp only[List.length_append,List.length_cons,List.length_nil];omega)
   simp-implicitDefEqProofs(disch:=try exact al)only[reduceAdd,reduceLeDiff,reduceIte,ax,s,L,w,A,R];exact bb.2 ⟨by rw[qq,iA,cT,c3,cT,cY];simp,u.trans o⟩
  | @new d m x p B q=>
   have a6:=eM q;simp-implicitDefEqProofs(disch:=try exact al)only[reduceAdd,reduceLeDiff,reduceIte,ax,Int.reduceBEq,s];refine aN (type20 (x:=x) (z:=0) (Int.le_refl 0) af af) ?_;rintro _ K ⟨rfl,o⟩;refine⟨o.1,?_⟩;have aV:flat (cX x 0)=x:=by rw[ud];simp[gM]
   rw[aV];have w:aq P .add 9 X (Y [110,101,119,32]) (Y x)=D (Y ([110,101,119,32]++x)):=cV (by simp only[List.length_cons,List.length_nil];omega);simp only[w,dG];exact bb.2 ⟨by rw[eH];show _=aa.str (flat [wd [110,101,119],ct,ch x]);rw[gD,dV,iA,cY];simp,u.trans o⟩
  | @make d m x z p e B q y=>
   obtain⟨cx,i⟩:=e;obtain⟨rfl,E⟩:=N _ _ _ rfl;rw[qv,hn,ew,c_,cW,c_,c_,cW]at hlen;simp-implicitDefEqProofs(disch:=try exact al)only[reduceAdd,reduceLeDiff,reduceIte,ax,Int.reduceBEq,s];refine aN (type20 q.1 q.2.1 (by have:=gn q;omega)) ?_;rintro _ K ⟨rfl,o⟩;refine⟨o.1,?_⟩;have L:=o.get s;have g4:=o.get g3;have v:=(ag (by simp) y).2 K G (E.aM o) (u.trans o);simp only[bM.cells]at v;simp-implicitDefEqProofs(disch:=try exact al)only[reduceAdd,reduceLeDiff,reduceIte,ax,g4];refine aN v ?_;rintro _ ao ⟨rfl,F⟩;refine⟨F.1,?_⟩;have w:aq P .add 9 X (Y [110,101,119,32,91]) (Y (flat (cX x z)))=D (Y ([110,101,119,32,91]++flat (cX x z))):=cV (by simp only[List.length_cons,List.length_nil];omega)
   have A:aq P .add 9 X (Y ([110,101,119,32,91]++flat (cX x z))) (Y [93,40])=D (Y ([110,101,119,32,91]++flat (cX x z)++[93,40])):=cV (by simp only[List.length_append,List.length_cons,List.length_nil];omega);have R:aq P .add 9 U (Y ([110,101,119,32,91]++flat (cX x z)++[93,40])) (Y (flat (bm (.mk b i))))=D (Y ([110,101,119,32,91]++flat (cX x z)++[93,40]++flat (bm (.mk b i)))):=cV (by simp only[List.length_append,List.length_cons,List.length_nil];omega);have ap:aq P .add 9 X (Y ([110,101,119,32,91]++flat (cX x z)++[93,40]++flat (bm (.mk b i)))) (Y [41])=D (Y ([110,101,119,32,91]++flat (cX x z)++[93,40]++flat (bm (.mk b i))++[41])):=cV (by simp only[List.length_append,List.length_cons,List.length_nil];omega)
   have ab:=qC (a:=b) E.beq;simp only[bM.cells]at ab;rw[w,dG,A,dG,R,dG,ap,dG];simp-implicitDefEqProofs(disch:=try exact al)only[reduceAdd,reduceLeDiff,reduceIte,ax,g3,g4,ab];exact bb.2 ⟨by rw[qv,gD,dV,cT,c3,cT,cT,c3,cT,cY];simp,(u.trans o).trans F⟩
  | @len d m p e B q=>
   obtain⟨cx,i⟩:=e;obtain⟨rfl,E⟩:=N _ _ _ rfl;rw[qu,hn,c_,cW]at hlen;have v:=(ag (by simp) q).2 ad G E u;simp only[bM.cells]at v;simp-implicitDefEqProofs(disch:=try exact al)only[reduceAdd,reduceLeDiff,reduceIte,ax,Int.reduceBEq,s,g3];refine aN v ?_;rintro _ K ⟨rfl,o⟩;refine⟨o.1,?_⟩;have w:aq P .add 9 X (Y [108,101,110,40]) (Y (flat (bm (.mk b i))))=D (Y ([108,101,110,40]++flat (bm (.mk b i)))):=cV (by simp only[List.length_cons,List.length_nil];omega);have A:aq P .add 9 X (Y ([108,101,110,40]++flat (bm (.mk b i)))) (Y [41])=D (Y ([108,101,110,40]++flat (bm (.mk b i))++[41])):=cV (by simp only[List.length_append,List.length_cons,List.length_nil];omega)
   rw[w,dG,A,dG];exact bb.2 ⟨by rw[qu,gD,cT,c3,cT,cY];simp,u.trans o⟩
  | @read d m p B=>
   simp-implicitDefEqProofs(disch:=try exact al)only[reduceAdd,reduceLeDiff,reduceIte,ax,Int.reduceBEq,s];exact bb.2 ⟨by rw[eH];rfl,u⟩
  | @sign d m k p e B q y=>
   obtain⟨cx,i⟩:=e;obtain⟨rfl,E⟩:=N _ _ _ rfl;rw[mQ q,c_]at hlen;have v:=e_ 6 rfl (by simp) y _ G E u;simp only[bM.cells]at v;have ab:=qC (a:=b) E.beq;simp only[bM.cells]at ab;rcases q with rfl|rfl
   ·simp-implicitDefEqProofs(disch:=try exact al)only[reduceAdd,reduceLeDiff,reduceIte,ax,Int.reduceBEq,s,kZ];refine aN (Di (.inl rfl)) ?_;rintro _ _ ⟨rfl,rfl⟩;refine⟨bk _,?_⟩;simp-implicitDefEqProofs(disch:=try exact al)only[reduceAdd,reduceLeDiff,reduceIte,ax,g3];refine aN v ?_;rintro _ K ⟨rfl,o⟩;refine⟨o.1,?_⟩;have w:aq P .add 9 U (Y (bif (12:Int)==12 then[45]else[33])) (Y (flat (cl 6 (.mk b i))))=D (Y ([45]++flat (cl 6 (.mk b i)))):=cV (t:=9) (a:=[45]) (by simp only[List.length_cons,List.length_nil];omega);simp-implicitDefEqProofs(disch:=try exact al)only[reduceAdd,reduceLeDiff,reduceIte,ax,w,g3,ab]
    exact bb.2 ⟨by rw[mQ (.inl rfl),cT];rfl,u.trans o⟩
   ·simp-implicitDefEqProofs(disch:=try exact al)only[reduceAdd,reduceLeDiff,reduceIte,ax,Int.reduceBEq,s,kZ];refine aN (Di (.inr rfl)) ?_;rintro _ _ ⟨rfl,rfl⟩;refine⟨bk _,?_⟩;simp-implicitDefEqProofs(disch:=try exact al)only[reduceAdd,reduceLeDiff,reduceIte,ax,g3];refine aN v ?_;rintro _ K ⟨rfl,o⟩;refine⟨o.1,?_⟩;have w:aq P .add 9 U (Y (bif (13:Int)==12 then[45]else[33])) (Y (flat (cl 6 (.mk b i))))=D (Y ([33]++flat (cl 6 (.mk b i)))):=cV (t:=9) (a:=[33]) (by simp only[List.length_cons,List.length_nil];omega);simp-implicitDefEqProofs(disch:=try exact al)only[reduceAdd,reduceLeDiff,reduceIte,ax,w,g3,ab]
    exact bb.2 ⟨by rw[mQ (.inr rfl),cT];rfl,u.trans o⟩
  | @bin d m k p e f B q y aP aQ=>
   obtain⟨cx,i⟩:=e;obtain⟨c,cs⟩:=f;obtain⟨rfl,E⟩:=N _ _ _ rfl;obtain⟨l',aY,aJ,a0,aK,kw,rfl,au,aE,ah⟩:=am.iZ (n:=2) rfl (j:=1) rfl;rw[qp q,cW,ew,c_,ew]at hlen;have a4:=uW q y;have cq:∀m:Int,m<14->(k==m)=false:=λm h=>by simp;omega
   have a1:IntKind.i64.wrap (((c6 k:Nat):Int)+1)=((c6 k+1:Nat):Int):=by have:=u3 k;rw[wrap_i64 af af];omega
   have v:=e_ (c6 k) rfl (by simp) aP _ G E u;simp only[bM.cells]at v;simp-implicitDefEqProofs(disch:=try exact al)only[reduceAdd,reduceLeDiff,reduceIte,ax,s,cq 1 af,cq 2 af,cq 3 af,cq 4 af,cq 5 af,cq 6 af,cq 7 af,cq 8 af,cq 9 af,cq 10 af,cq 11 af,cq 12 af,cq 13 af,kZ];unfold lS;simp-implicitDefEqProofs(disch:=try exact al)only[reduceAdd,reduceLeDiff,reduceIte,ax,s];refine aN (L7 q y) ?_;rintro _ _ ⟨rfl,rfl⟩;refine⟨bk _,?_⟩;have a3:(gv k != [])=true:=by
    have O:k=14\/k=15\/k=16\/k=17\/k=18\/k=19\/k=20\/k=21\/k=22\/k=23\/k=24:=af;rcases O with rfl|rfl|rfl|rfl|rfl|rfl|rfl|rfl|rfl|rfl|rfl<;>rfl
   have aT:aq P .neq 9 X (Y (gv k)) (Y [])=D (.bool X):=by
    have O:k=14\/k=15\/k=16\/k=17\/k=18\/k=19\/k=20\/k=21\/k=22\/k=23\/k=24:=af;rcases O with rfl|rfl|rfl|rfl|rfl|rfl|rfl|rfl|rfl|rfl|rfl<;>rfl
   simp-implicitDefEqProofs(disch:=try exact al)only[bf,br,aT,reduceAdd,reduceLeDiff,reduceIte,ax,s];refine aN BI ?_;rintro _ _ ⟨rfl,rfl⟩;refine⟨bk _,?_⟩;simp-implicitDefEqProofs(disch:=try exact al)only[reduceAdd,reduceLeDiff,reduceIte,ax,g3];refine aN v ?_;rintro _ K ⟨rfl,o⟩;refine⟨o.1,?_⟩;have L:=o.get s;simp-implicitDefEqProofs(disch:=try exact al)only[reduceAdd,reduceLeDiff,reduceIte,ax,L];refine aN (rH (j:=1) rfl af ah.eb (o.get au) aE) ?_;rintro _ ao ⟨rfl,F⟩;refine⟨F.1,?_⟩;simp-implicitDefEqProofs(disch:=try exact al)only[reduceAdd,reduceLeDiff,reduceIte,ax,a1];refine aN (e_ (c6 k+1) rfl (by simp) aQ _ kw (ah.aM (o.trans F)) ((u.trans o).trans F)) ?_
   rintro _ aI ⟨rfl,ai⟩;refine⟨ai.1,?_⟩;have w:aq P .add 9 X (Y (flat (cl (c6 k) (.mk b i)))) (Y [32])=D (Y (flat (cl (c6 k) (.mk b i))++[32])):=cV (by simp only[List.length_cons,List.length_nil];omega);have A:aq P .add 9 U (Y (flat (cl (c6 k) (.mk b i))++[32])) (Y (gv k))=D (Y (flat (cl (c6 k) (.mk b i))++[32]++gv k)):=cV (by simp only[List.length_append,List.length_cons,List.length_nil];omega);have R:aq P .add 9 X (Y (flat (cl (c6 k) (.mk b i))++[32]++gv k)) (Y [32])=D (Y (flat (cl (c6 k) (.mk b i))++[32]++gv k++[32])):=cV (by simp only[List.length_append,List.length_cons,List.length_nil];omega)
   have ap:aq P .add 9 U (Y (flat (cl (c6 k) (.mk b i))++[32]++gv k++[32])) (Y (flat (cl (c6 k+1) (.mk c cs))))=D (Y (flat (cl (c6 k) (.mk b i))++[32]++gv k++[32]++flat (cl (c6 k+1) (.mk c cs)))):=cV (by simp only[List.length_append,List.length_cons,List.length_nil];omega);rw[w,dG,A,dG,R,dG,ap,dG];simp-implicitDefEqProofs(disch:=try exact al)only[reduceAdd,reduceLeDiff,reduceIte,ax,s,L];exact bb.2 ⟨by rw[qp q,c3,dV,cT,dV];simp,((u.trans o).trans F).trans ai⟩
section
set_option maxRecDepth 100000
noncomputable section
def sG(G:ay)(ag av:aa)(H:ae):O:=aI H (G 80 [ag] H) λn a=>j (bW ag) λe=>j (aK P 79 e 1) λh=>j (an P a 77 h) λi=>aI a (cQ P a [77,9] i av) λk c=>j (bW ag) λl=>j (aK P 79 l 1) λbz=>a7 c (aV P c 77 bz k) λd=>bf P .len [9] [av] d λm=>D (.tuple [m,aa.nilIface],d)
def JW(N:Nat){ag av:aa}{H:ae}{r:aa×ae}(h:sG (aC P az) ag av H=D r):aC P az 57 [ag,av] H=D r:=cO N (S:=λG=>sG G ag av H) Tryd.func57 (λ_=>by delta sG;kernel_rfl) h
def sH(G:ay)(ag av:aa)(H:ae):O:=aI H (G 80 [ag] H) λbp a=>j (bW ag) λn=>j (aK P 79 n 1) λh=>j (an P a 77 h) λi=>bS a (bV P (a).next 77 1 [(0,av)]) λk c=>aI c (cQ P c [77,77] i k) λl d=>j (bW ag) λm=>j (aK P 79 m 1) λbz=>a7 d (aV P d 77 bz l) λe=>D (aa.nilIface,e)
def JX(N:Nat){ag av:aa}{H:ae}{r:aa×ae}(h:sH (aC P az) ag av H=D r):aC P az 58 [ag,av] H=D r:=cO N (S:=λG=>sH G ag av H) Tryd.func58 (λ_=>by delta sH;kernel_rfl) h
end
end
section
set_option maxRecDepth 100000
noncomputable section
def oP(G:ay)(N:Nat)(ag:aa)(H:ae):O:=j (bW ag) λc=>j (aK P 81 c 0) λd=>aI H (G 58 [d,I .u8 10] H) λe a=>D (.tuple [],a)
def KO(G:ay)(N:Nat):∀ad H,bo P G N (ak (ak (bs Tryd.f29))) (bh Tryd.f29) [] (bh Tryd.f29) ad H=oP G N (ad 0) H:=by
 refine bK (aH _) λad H=> ?_
 delta oP;kernel_rfl
def qJ(G:ay)(N:Nat)(d:aa->aa->aa->aa->ae->O)(ag a:aa)(c bz:aa)(H:ae):O:=j (aq P .lss 3 U bz c) λh=>aW (D h) (j (cc P 50 a bz) λi=>j (an P H 9 i) λk=>j (bW ag) λl=>j (aK P 81 l 0) λm=>aI H (G 57 [m,k] H) λo e=>j (aq P .add 3 X bz (I J 1)) λn=>d ag a c n e) (oP G N ag H)
def lU(G:ay)(N:Nat):Nat->aa->aa->aa->aa->ae->O
 |0,_,_,_,_,_=>Z
 |n+1,ag,a,c,bz,H=>qJ G N (lU G N n) ag a c bz H
def KN(G:ay)(N:Nat)(c:aa->aa->aa->aa->ae->O):∀ad H,bo P G N (a6 (a6 (ak (a6 (ak (bs Tryd.f29)))))) (λad H=>c (ad 0) (ad 14) (ad 15) (ad 16) H) [(0,(λad H=>oP G N (ad 0) H))] (bh Tryd.f29) ad H=qJ G N c (ad 0) (ad 14) (ad 15) (ad 16) H:=by
 refine bK (aH _) λad H=> ?_
 delta qJ;generalize oP G N=a;revert a;refine id ?_;intro a;kernel_rfl
def ss(G:ay)(N:Nat)(ag av d:aa)(H:ae):O:=aI H (G 54 [Y [32,32],av] H) λh a=>j (bW ag) λk=>j (aK P 81 k 0) λe=>aI a (G 57 [e,h] a) λl c=>bf P .len [50] [d] c λi=>lU G N N ag d i (I J 0) c
def JE(N:Nat){ag av a:aa}{H:ae}{r:aa×ae}(h:ss (aC P az) N ag av a H=D r):aC P az 29 [ag,av,a] H=D r:=cO N (S:=λG=>ss G N ag av a H) Tryd.func29 (λG=>dN ((aP ah ((aP ah (KO G N) ((aP ah ((dc ah ((ei (k:=λm ad H=>lU G N m (ad 0) (ad 14) (ad 15) (ad 16) H) ah (λad H=>ah) (λm=>KN G N (lU G N m)))))) (aH _))))) (aH _))) (by delta ss;generalize lU G N N=c;revert c;refine id ?_;intro c;kernel_rfl)) h
def oR(G:ay)(N:Nat)(k:aa->aa->aa->aa->aa->ae->O)(ag av:aa)(h i c:aa)(H:ae):O:=j (aq P .lss 3 U c i) λm=>aW (D m) (j (cc P 71 h c) λn=>j (an P H 112 n) λo=>cg H [I J 0,Y [],Y [],I J 0,aa.ar,aa.ar,aa.ar,I J 0,I J 0] λe d=>a7 d (aV P d 112 e o) λa=>j (an P a 112 e) λbz=>aI a (G 60 [ag,av,bz] a) λq l=>j (aq P .add 3 X c (I J 1)) λp=>k ag av h i p l) (D (.tuple [],H))
def k3(G:ay)(N:Nat):Nat->aa->aa->aa->aa->aa->ae->O
 |0,_,_,_,_,_,_=>Z
 |n+1,ag,av,c,d,a,H=>oR G N (k3 G N n) ag av c d a H
def KS(G:ay)(N:Nat)(a:aa->aa->aa->aa->aa->ae->O):∀ad H,bo P G N (a6 (a6 (ak (bs Tryd.f31)))) (λad H=>a (ad 0) (ad 1) (ad 8) (ad 9) (ad 10) H) [(0,(bh Tryd.f31))] (bh Tryd.f31) ad H=oR G N a (ad 0) (ad 1) (ad 8) (ad 9) (ad 10) H:=by
 refine bK (aH _) λad H=> ?_
 delta oR;kernel_rfl
def sv(G:ay)(N:Nat)(ag av a:aa)(H:ae):O:=bf P .len [71] [a] H λc=>k3 G N N ag av a c (I J 0) H
def JG(N:Nat){ag av a:aa}{H:ae}{r:aa×ae}(h:sv (aC P az) N ag av a H=D r):aC P az 31 [ag,av,a] H=D r:=cO N (S:=λG=>sv G N ag av a H) Tryd.func31 (λG=>dN ((aP ah ((dc ah ((ei (k:=λm ad H=>k3 G N m (ad 0) (ad 1) (ad 8) (ad 9) (ad 10) H) ah (λad H=>ah) (λm=>KS G N (k3 G N m)))))) (aH _))) (by delta sv;generalize k3 G N N=c;revert c;refine id ?_;intro c;kernel_rfl)) h
def nu(G:ay)(ag av:aa)(H:ae):O:=bS H (D (.aA (H).next 0 1 1 (D 1),.row U 1 [[Y [125]]])) λd a=>aI a (G 29 [ag,av,d] a) λe c=>D (.tuple [],c)
def Lp(G:ay)(N:Nat):∀ad H,bo P G N (ak (ak (ak (a6 (ak (ak (ak (ak (ak (ak (ak (ak (ak (a6 (ak (ak (ak (bs Tryd.f60)))))))))))))))))) (bh Tryd.f60) [(0,(bh Tryd.f60))] (bh Tryd.f60) ad H=nu G (ad 0) (ad 1) H:=by
 refine bK (aH _) λad H=> ?_
 delta nu;kernel_rfl
def sI(G:ay)(ag av ah:aa)(H:ae):O:=bS H (dS (H).next ah) λe n=>j (aK P 112 e 3) λaR=>j (an P n 41 aR) λaV=>aI n (G 41 [aV,I J 0] n) λA s=>aI s (G 16 [A] s) λk o=>j (aK P 112 e 3) λp=>j (an P o 41 p) λq=>aI o (G 41 [q,I J 1] o) λab y=>aI y (G 16 [ab] y) λad c=>bif ((bj (an P n 41 p) q&&(bj (an P s 41 p) q&&(bj (an P o 41 p) q&&X)))&&X)then(j (aK P 112 e 0) λbz=>j (an P c 3 bz) λi=>j (aq P .eql 3 X i (I J 1)) λaf=>aW (D af) (j (aK P 112 e 2) λai=>j (an P c 40 ai) λaj=>aI c (G 20 [aj] c) λak a=>j (aK P 112 e 1) λu=>j (an P a 9 u) λv=>bS a (bV P (a).next 50 5 [(0,(Y [118,97,114,32])),(1,v),(2,(Y [58,32])),(3,ak),(4,(Y [59]))]) λal d=>aI d (G 29 [ag,av,al] d) λa7 h=>bif ((bj (an P c 9 u) v&&(bj (an P a 9 u) v&&X))&&X)then(D (.tuple [],h))else Z) (j (aq P .eql 3 X i (I J 2)) λam=>aW (D am) (j (aK P 112 e 2) λao=>j (an P c 40 ao) λap=>aI c (G 20 [ap] c) λau a=>j (aK P 112 e 1) λw=>j (an P a 9 w) λx=>bS a (bV P (a).next 50 7 [(0,(Y [108,101,116,32])),(1,x),(2,(Y [58,32])),(3,au),(4,(Y [32,61,32])),(5,k),(6,(Y [59]))]) λaw d=>aI d (G 29 [ag,av,aw] d) λa8 h=>bif ((bj (an P c 9 w) x&&(bj (an P a 9 w) x&&X))&&X)then(D (.tuple [],h))else Z) (j (aq P .eql 3 X i (I J 3)) λax=>aW (D ax) (j (aK P 112 e 1) λaz=>j (an P c 9 az) λaB=>bS c (bV P (c).next 50 4 [(0,aB),(1,(Y [32,61,32])),(2,k),(3,(Y [59]))]) λaC a=>aI a (G 29 [ag,av,aC] a) λa9 d=>D (.tuple [],d)) (j (aq P .eql 3 X i (I J 4)) λaD=>aW (D aD) (bS c (bV P (c).next 50 4 [(0,k),(1,(Y [32,61,32])),(2,ad),(3,(Y [59]))]) λaE a=>aI a (G 29 [ag,av,aE] a) λa_ d=>D (.tuple [],d)) (j (aq P .eql 3 X i (I J 5)) λaF=>aW (D aF) (bS c (bV P (c).next 50 3 [(0,(Y [105,102,32])),(1,k),(2,(Y [32,123]))]) λaG a=>aI a (G 29 [ag,av,aG] a) λba d=>j (aq P .add 3 X av (I J 1)) λaH=>j (aK P 112 e 4) λaJ=>j (an P d 71 aJ) λaL=>aI d (G 31 [ag,aH,aL] d) λbb h=>j (aK P 112 e 5) λaM=>j (an P h 71 aM) λaN=>bf P .len [71] [aN] h λaO=>j (aq P .gtr 3 X aO (I J 0)) λaP=>aW (D aP) (bS h (D (.aA (h).next 0 1 1 (D 1),.row U 1 [[Y [125,32,101,108,115,101,32,123]]])) λaQ m=>aI m (G 29 [ag,av,aQ] m) λbc l=>j (aq P .add 3 X av (I J 1)) λaS=>j (aK P 112 e 5) λaT=>j (an P l 71 aT) λaU=>aI l (G 31 [ag,aS,aU] l) λbd z=>nu G ag av z) (nu G ag av h)) (j (aq P .eql 3 X i (I J 6)) λaX=>aW (D aX) (bS c (bV P (c).next 50 3 [(0,(Y [119,104,105,108,101,32])),(1,k),(2,(Y [32,123]))]) λaY a=>aI a (G 29 [ag,av,aY] a) λbe d=>j (aq P .add 3 X av (I J 1)) λaZ=>j (aK P 112 e 4) λa0=>j (an P d 71 a0) λB=>aI d (G 31 [ag,aZ,B] d) λa1 h=>bS h (D (.aA (h).next 0 1 1 (D 1),.row U 1 [[Y [125]]])) λE m=>aI m (G 29 [ag,av,E] m) λa2 l=>D (.tuple [],l)) (j (aq P .eql 3 X i (I J 7)) λF=>aW (D F) (j (aK P 112 e 3) λK=>j (an P c 41 K) λL=>bf P .len [41] [L] c λM=>j (aq P .eql 3 X M (I J 0)) λN=>aW (D N) (bS c (D (.aA (c).next 0 1 1 (D 1),.row U 1 [[Y [114,101,116,117,114,110,59]]])) λQ a=>aI a (G 29 [ag,av,Q] a) λa3 d=>D (.tuple [],d)) (bS c (bV P (c).next 50 3 [(0,(Y [114,101,116,117,114,110,32])),(1,k),(2,(Y [59]))]) λR a=>aI a (G 29 [ag,av,R] a) λa4 d=>D (.tuple [],d))) (j (aq P .eql 3 X i (I J 8)) λS=>aW (D S) (bS c (bV P (c).next 50 3 [(0,(Y [112,114,105,110,116,32])),(1,k),(2,(Y [59]))]) λT a=>aI a (G 29 [ag,av,T] a) λa5 d=>D (.tuple [],d)) (j (aq P .eql 3 X i (I J 9)) λV=>aW (D V) (bS c (bV P (c).next 50 2 [(0,k),(1,(Y [59]))]) λW a=>aI a (G 29 [ag,av,W] a) λa6 d=>D (.tuple [],d)) (D (.tuple [],c)))))))))))else Z
def JY(N:Nat){ag av a:aa}{H:ae}{r:aa×ae}(h:sI (aC P az) ag av a H=D r):aC P az 60 [ag,av,a] H=D r:=cO N (S:=λG=>sI G ag av a H) Tryd.func60 (λG=>dN ((aP ah ((aP ah ((aP ah ((dc ah ((aP ah ((dt ah (aH _) ((aP ah ((dt ah (aH _) ((aP ah ((dt ah (aH _) ((aP ah ((dt ah (aH _) ((aP ah ((dt ah ((aP ah ((aP ah ((aP ah (Lp G N) (aH _))) (aH _))) (aH _))) (aH _))) (aH _))))) (aH _))))) (aH _))))) (aH _))))) (aH _))))) (aH _))) (aH _))) (aH _))) (by delta sI;generalize nu G=c;revert c;refine id ?_;intro c;kernel_rfl)) h
