/-
  Texts of one proof, laid together: ShVa Va Vb Z12 Zb U1 U2 U3 U4 U5 Qa Vc Vd ShV ShVb.
-/
import Derived.Test.YtghmbpmaafnodaaDoorMM
set_option linter.unusedVariables false
set_option linter.unusedSimpArgs false
set_option linter.defProp false
open Option renaming some→D,none→C
open Bool renaming true→X,false→U
open Go.bn.aa renaming int→I,str→Z
open Go.IntKind renaming i64→J
namespace Go.Proofs.YtghmbpmaafnodaaDoor
open Go.bn
open Nat (reduceAdd reduceLeDiff)
section
set_option maxRecDepth 100000
noncomputable section
def sE(G:aD)(ag av:aa)(H:af):O:=cX H [I J 0,I J 0,Z [],Z [],I J 0,aa.aA,I J 0,I J 0,I J 0,I J 0,I J 0] λd a=>bg P .len [41] [ag] a λi=>j (au P .geq 3 U av i) λk=>a7 (D k) (bm a (ba P a 45 d (.agg [I J 0,I J 0,Z [],Z [],I J 0,aa.aA,I J 0,I J 0,I J 0,I J 0,I J 0])) λc=>j (ao P c 45 d) λr=>D (r,c)) (j (cF P 41 ag av) λe=>j (ao P a 45 e) λh=>bm a (ba P a 45 d h) λc=>j (ao P c 45 d) λr=>D (r,c))
def Ao(N:Nat){ag av:aa}{H:af}{r:aa×af}(h:sE (aI P aB) ag av H=D r):aI P aB 41 [ag,av] H=D r:=cZ N (S:=λG=>sE G ag av H) Tryd.func41 (λ_=>by delta sE;kernel_rfl) h
def w2(G:aD)(ag av:aa)(H:af):O:=ca H (dR (H).next ag) λe c=>j (aJ P 45 e 0) λo=>j (ao P c 3 o) λbD=>aO c (G 47 [bD] c) λp a=>j (au P .lss 3 U p av) λq=>a7 (D q) (j (ao P a 45 e) λh=>aO a (G 16 [h] a) λi d=>j (au P .add 9 X (Z [40]) i) λk=>j (au P .add 9 X k (Z [41])) λl=>D (l,d)) (j (ao P a 45 e) λm=>aO a (G 16 [m] a) λn d=>D (n,d))
def Rr(N:Nat){ag av:aa}{H:af}{r:aa×af}(h:w2 (aI P aB) ag av H=D r):aI P aB 44 [ag,av] H=D r:=cZ N (S:=λG=>w2 G ag av H) Tryd.func44 (λ_=>by delta w2;kernel_rfl) h
def qO(G:aD)(N:Nat)(d:aa)(H:af):O:=aO H (G 59 [d,Z [44,32]] H) λc a=>D (c,a)
def SQ(G:aD)(N:Nat):∀ad H,bC P G N (o (o (o (bI Tryd.f45)))) (bs Tryd.f45) [] (bs Tryd.f45) ad H=qO G N (ad 3) H:=by
 refine bZ (aL _) λad H=> ?_
 delta qO;kernel_rfl
def sF(G:aD)(N:Nat)(m:aa->aa->aa->aa->af->O)(i bD:aa)(l c:aa)(H:af):O:=j (au P .lss 3 U c l) λw=>a7 (D w) (j (cF P 41 bD c) λo=>j (ao P H 45 o) λp=>cX H [I J 0,I J 0,Z [],Z [],I J 0,aa.aA,I J 0,I J 0,I J 0,I J 0,I J 0] λk d=>bm d (ba P d 45 k p) λa=>j (ao P a 45 k) λq=>aO a (G 16 [q] a) λs e=>ca e (cl P (e).next 50 1 [(0,s)]) λu h=>aO h (df P h [50,50] i u) λbR n=>j (au P .add 3 X c (I J 1)) λv=>m bR bD l v n) (qO G N i H)
def nT(G:aD)(N:Nat):Nat->aa->aa->aa->aa->af->O
 |0,_,_,_,_,_=>C
 |n+1,a,bD,c,d,H=>sF G N (nT G N n) a bD c d H
def SP(G:aD)(N:Nat)(c:aa->aa->aa->aa->af->O):∀ad H,bC P G N (bd (bd (o (bd (o (o (bI Tryd.f45))))))) (λad H=>c (ad 3) (ad 6) (ad 7) (ad 8) H) [(0,(λad H=>qO G N (ad 3) H))] (bs Tryd.f45) ad H=sF G N c (ad 3) (ad 6) (ad 7) (ad 8) H:=by
 refine bZ (aL _) λad H=> ?_
 delta sF;generalize qO G N=a;revert a;refine id ?_;intro a;kernel_rfl
def w3(G:aD)(N:Nat)(ag:aa)(H:af):O:=bg P .len [41] [ag] H λa=>nT G N N aa.aA ag a (I J 0) H
def Rs(N:Nat){ag:aa}{H:af}{r:aa×af}(h:w3 (aI P aB) N ag H=D r):aI P aB 45 [ag] H=D r:=cZ N (S:=λG=>w3 G N ag H) Tryd.func45 (λG=>eo ((aX ah ((aX ah ((aX ah (SQ G N) ((aX ah ((dx ah ((eP (k:=λm ad H=>nT G N m (ad 3) (ad 6) (ad 7) (ad 8) H) ah (λad H=>ah) (λm=>SP G N (nT G N m)))))) (aL _))))) (aL _))) (aL _))) (by delta w3;generalize nT G N N=a;revert a;refine id ?_;intro a;kernel_rfl)) h
def sG(G:aD)(H:af):O:=some ((Z []),H)
def SR(G:aD)(N:Nat):∀ad H,bC P G N (o (o (bI Tryd.f46))) (bs Tryd.f46) [] (bs Tryd.f46) ad H=sG G H:=by
 refine bZ (aL _) λad H=> ?_
 delta sG;kernel_rfl
def qP(G:aD)(a o:aa)(H:af):O:=a7 (D o) (D ((Z [45]),H)) (j (au P .eql 3 X a (I J 13)) λp=>a7 (D p) (D ((Z [33]),H)) (j (au P .eql 3 X a (I J 14)) λc=>a7 (D c) (D ((Z [43]),H)) (j (au P .eql 3 X a (I J 16)) λd=>a7 (D d) (D ((Z [42]),H)) (j (au P .eql 3 X a (I J 17)) λe=>a7 (D e) (D ((Z [47]),H)) (j (au P .eql 3 X a (I J 18)) λbR=>a7 (D bR) (D ((Z [37]),H)) (j (au P .eql 3 X a (I J 19)) λh=>a7 (D h) (D ((Z [60]),H)) (j (au P .eql 3 X a (I J 20)) λi=>a7 (D i) (D ((Z [60,61]),H)) (j (au P .eql 3 X a (I J 21)) λk=>a7 (D k) (D ((Z [61,61]),H)) (j (au P .eql 3 X a (I J 22)) λl=>a7 (D l) (D ((Z [33,61]),H)) (j (au P .eql 3 X a (I J 23)) λm=>a7 (D m) (D ((Z [38,38]),H)) (j (au P .eql 3 X a (I J 24)) λn=>a7 (D n) (D ((Z [124,124]),H)) (sG G H))))))))))))
def SS(G:aD)(N:Nat):∀ad H,bC P G N (o (bd (o (bd (o (bI Tryd.f46)))))) (λad H=>sG G H) [(0,(λad H=>sG G H))] (bs Tryd.f46) ad H=qP G (ad 3) (ad 4) H:=by
 refine bZ (aL _) λad H=> ?_
 delta qP;generalize sG G=a;revert a;refine id ?_;intro a;kernel_rfl
def uG(G:aD)(ag:aa)(H:af):O:=j (au P .eql 3 X ag (I J 12)) λa=>a7 (D a) (qP G ag a H) (j (au P .eql 3 X ag (I J 15)) λbD=>qP G ag bD H)
def Ap(N:Nat){ag:aa}{H:af}{r:aa×af}(h:uG (aI P aB) ag H=D r):aI P aB 46 [ag] H=D r:=cZ N (S:=λG=>uG G ag H) Tryd.func46 (λG=>eo ((aX ah ((aX ah (SR G N) ((aX ah ((dx ah ((aX ah (SS G N) (aL _))))) (aL _))))) (aL _))) (by delta uG;generalize qP G=a;revert a;refine id ?_;intro a;kernel_rfl)) h
def kI(G:aD)(H:af):O:=some ((I J 7),H)
def SU(G:aD)(N:Nat):∀ad H,bC P G N (o (o (bI Tryd.f47))) (bs Tryd.f47) [] (bs Tryd.f47) ad H=kI G H:=by
 refine bZ (aL _) λad H=> ?_
 delta kI;kernel_rfl
def sI(G:aD)(a:aa)(H:af):O:=a7 (D a) (D ((I J 6),H)) (kI G H)
def SY(G:aD)(N:Nat):∀ad H,bC P G N (o (o (o (o (o (o (o (o (o (o (o (bd (o (bd (o (bI Tryd.f47)))))))))))))))) (λad H=>kI G H) [(0,(λad H=>kI G H))] (bs Tryd.f47) ad H=sI G (ad 20) H:=by
 refine bZ (aL _) λad H=> ?_
 delta sI;generalize kI G=a;revert a;refine id ?_;intro a;kernel_rfl
def qQ(G:aD)(c bR:aa)(H:af):O:=a7 (D bR) (D ((I J 5),H)) (j (au P .eql 3 X c (I J 12)) λa=>a7 (D a) (sI G a H) (j (au P .eql 3 X c (I J 13)) λd=>sI G d H))
def SX(G:aD)(N:Nat):∀ad H,bC P G N (o (o (o (o (o (o (o (o (o (bd (o (bd (o (bI Tryd.f47)))))))))))))) (λad H=>kI G H) [(0,(λad H=>kI G H))] (bs Tryd.f47) ad H=qQ G (ad 3) (ad 16) H:=by
 refine bZ ((d_ ah (aL _) ((aX ah (SY G N) (aL _))))) λad H=> ?_
 delta qQ;generalize sI G=a;revert a;refine id ?_;intro a;kernel_rfl
def sH(G:aD)(a e:aa)(H:af):O:=a7 (D e) (D ((I J 4),H)) (j (au P .eql 3 X a (I J 16)) λc=>a7 (D c) (qQ G a c H) (j (au P .eql 3 X a (I J 17)) λd=>a7 (D d) (qQ G a d H) (j (au P .eql 3 X a (I J 18)) λh=>qQ G a h H)))
def SW(G:aD)(N:Nat):∀ad H,bC P G N (o (o (o (o (o (o (o (bd (o (bd (o (bI Tryd.f47)))))))))))) (λad H=>kI G H) [(0,(λad H=>kI G H))] (bs Tryd.f47) ad H=sH G (ad 3) (ad 13) H:=by
 refine bZ ((d_ ah (aL _) ((aX ah (SX G N) (aL _))))) λad H=> ?_
 delta sH;generalize qQ G=a;revert a;refine id ?_;intro a;kernel_rfl
def pk(G:aD)(a e:aa)(H:af):O:=a7 (D e) (D ((I J 3),H)) (j (au P .eql 3 X a (I J 14)) λc=>a7 (D c) (sH G a c H) (j (au P .eql 3 X a (I J 15)) λd=>sH G a d H))
def SV(G:aD)(N:Nat):∀ad H,bC P G N (o (o (o (o (o (bd (o (bd (o (bI Tryd.f47)))))))))) (λad H=>kI G H) [(0,(λad H=>kI G H))] (bs Tryd.f47) ad H=pk G (ad 3) (ad 8) H:=by
 refine bZ ((d_ ah (aL _) ((aX ah (SW G N) (aL _))))) λad H=> ?_
 delta pk;generalize sH G=a;revert a;refine id ?_;intro a;kernel_rfl
def w4(G:aD)(ag:aa)(H:af):O:=j (au P .eql 3 X ag (I J 24)) λh=>a7 (D h) (D ((I J 1),H)) (j (au P .eql 3 X ag (I J 23)) λi=>a7 (D i) (D ((I J 2),H)) (j (au P .eql 3 X ag (I J 19)) λd=>a7 (D d) (pk G ag d H) (j (au P .eql 3 X ag (I J 20)) λa=>a7 (D a) (pk G ag a H) (j (au P .eql 3 X ag (I J 21)) λc=>a7 (D c) (pk G ag c H) (j (au P .eql 3 X ag (I J 22)) λe=>pk G ag e H)))))
def Rt(N:Nat){ag:aa}{H:af}{r:aa×af}(h:w4 (aI P aB) ag H=D r):aI P aB 47 [ag] H=D r:=cZ N (S:=λG=>w4 G ag H) Tryd.func47 (λG=>eo ((aX ah ((aX ah (SU G N) ((aX ah ((dx ah ((aX ah ((d_ ah (aL _) ((aX ah ((d_ ah (aL _) ((aX ah (SV G N) (aL _))))) (aL _))))) (aL _))))) (aL _))))) (aL _))) (by delta w4;generalize pk G=a;revert a;refine id ?_;intro a;kernel_rfl)) h
def wQ(G:aD)(ag:aa)(H:af):O:=ca H (dR (H).next ag) λav a=>j (aJ P 40 av 1) λn=>j (ao P a 3 n) λo=>bg P .max [3,3] [o,I J 0] a λbD=>bg P .min [3,3] [bD,I J 3] a λi=>aO a (G 54 [Z [91],i] a) λp e=>aO e (G 54 [Z [93],i] e) λl h=>j (aJ P 40 av 0) λc=>j (ao P h 9 c) λd=>j (au P .add 9 U p d) λk=>j (au P .add 9 U k l) λm=>bif ((bp (ao P a 9 c) d&&(bp (ao P e 9 c) d&&bp (ao P h 9 c) d))&&X)then(D (m,h))else C
def Q_(N:Nat){ag:aa}{H:af}{r:aa×af}(h:wQ (aI P aB) ag H=D r):aI P aB 20 [ag] H=D r:=cZ N (S:=λG=>wQ G ag H) Tryd.func20 (λ_=>by delta wQ;kernel_rfl) h
def pd(G:aD)(av A:aa)(H:af):O:=j (aJ P 45 av 0) λB=>j (ao P H 3 B) λE=>aO H (G 46 [E] H) λl a=>j (au P .neq 9 X l (Z [])) λF=>a7 (D F) (j (aJ P 45 av 0) λn=>j (ao P a 3 n) λo=>aO a (G 47 [o] a) λk c=>j (ao P c 45 A) λp=>aO c (G 44 [p,k] c) λq d=>j (aJ P 45 av 4) λe=>j (ao P d 41 e) λh=>aO d (G 41 [h,I J 1] d) λw i=>j (au P .add 3 X k (I J 1)) λx=>aO i (G 44 [w,x] i) λy m=>j (au P .add 9 X q (Z [32])) λs=>j (au P .add 9 U s l) λu=>j (au P .add 9 X u (Z [32])) λv=>j (au P .add 9 U v y) λz=>bif ((bp (ao P c 41 e) h&&(bp (ao P d 41 e) h&&X))&&X)then(D (z,m))else C) (D ((Z []),a))
def Sl(G:aD)(N:Nat):∀ad H,bC P G N (o (o (o (bI Tryd.f16)))) (bs Tryd.f16) [] (bs Tryd.f16) ad H=pd G (ad 1) (ad 3) H:=by
 refine bZ (aL _) λad H=> ?_
 delta pd;kernel_rfl
def nL(G:aD)(av c h:aa)(H:af):O:=a7 (D h) (j (aJ P 45 av 0) λi=>j (ao P H 3 i) λk=>aO H (G 46 [k] H) λl a=>j (ao P a 45 c) λd=>aO a (G 44 [d,I J 6] a) λm e=>j (au P .add 9 U l m) λn=>bif ((bp (ao P H 45 c) d&&(bp (ao P a 45 c) d&&X))&&X)then(D (n,e))else C) (pd G av c H)
def Sm(G:aD)(N:Nat):∀ad H,bC P G N (o (o (o (o (o (o (o (o (o (o (o (o (o (o (o (o (o (o (o (o (o (o (o (bd (o (bd (o (o (bI Tryd.f16))))))))))))))))))))))))))))) (λad H=>pd G (ad 1) (ad 3) H) [(0,(λad H=>pd G (ad 1) (ad 3) H))] (bs Tryd.f16) ad H=nL G (ad 1) (ad 3) (ad 86) H:=by
 refine bZ (aL _) λad H=> ?_
 delta nL;generalize pd G=a;revert a;refine id ?_;intro a;kernel_rfl
def uC(G:aD)(ag:aa)(H:af):O:=ca H (dR (H).next ag) λav i=>j (aJ P 45 av 4) λbD=>j (ao P i 41 bD) λaP=>aO i (G 41 [aP,I J 0] i) λaY v=>cX v [I J 0,I J 0,Z [],Z [],I J 0,aa.aA,I J 0,I J 0,I J 0,I J 0,I J 0] λe s=>bm s (ba P s 45 e aY) λa=>j (aJ P 45 av 0) λa5=>j (ao P a 3 a5) λd=>j (au P .eql 3 X d (I J 1)) λx=>a7 (D x) (j (aJ P 45 av 1) λy=>j (ao P a 3 y) λz=>aO a (G 42 [z] a) λA c=>D (A,c)) (j (au P .eql 3 X d (I J 2)) λB=>a7 (D B) (j (aJ P 45 av 1) λE=>j (ao P a 3 E) λF=>j (au P .neq 3 X F (I J 0)) λK=>aO a (G 43 [K] a) λL c=>D (L,c)) (j (au P .eql 3 X d (I J 3)) λM=>a7 (D M) (j (aJ P 45 av 3) λN=>j (ao P a 40 N) λQ=>aO a (G 20 [Q] a) λR c=>j (au P .add 9 X (Z [110,117,108,108,32]) R) λS=>D (S,c)) (j (au P .eql 3 X d (I J 4)) λT=>a7 (D T) (j (aJ P 45 av 2) λV=>j (ao P a 9 V) λW=>D (W,a)) (j (au P .eql 3 X d (I J 5)) λab=>a7 (D ab) (j (ao P a 45 e) λad=>aO a (G 44 [ad,I J 7] a) λae c=>j (au P .add 9 X ae (Z [46])) λah=>j (aJ P 45 av 2) λk=>j (ao P c 9 k) λl=>j (au P .add 9 U ah l) λai=>bif ((bp (ao P a 9 k) l&&bp (ao P c 9 k) l)&&X)then(D (ai,c))else C) (j (au P .eql 3 X d (I J 6)) λaj=>a7 (D aj) (j (ao P a 45 e) λak=>aO a (G 44 [ak,I J 7] a) λal c=>j (aJ P 45 av 4) λm=>j (ao P c 41 m) λn=>aO c (G 41 [n,I J 1] c) λan h=>aO h (G 16 [an] h) λap w=>j (au P .add 9 X al (Z [91])) λam=>j (au P .add 9 U am ap) λaq=>j (au P .add 9 X aq (Z [93])) λar=>bif ((bp (ao P a 41 m) n&&(bp (ao P c 41 m) n&&X))&&X)then(D (ar,w))else C) (j (au P .eql 3 X d (I J 7)) λaw=>a7 (D aw) (j (aJ P 45 av 4) λay=>j (ao P a 41 ay) λaz=>aO a (G 45 [az] a) λaB c=>j (aJ P 45 av 2) λo=>j (ao P c 9 o) λp=>j (au P .add 9 X p (Z [40])) λax=>j (au P .add 9 U ax aB) λaC=>j (au P .add 9 X aC (Z [41])) λaE=>bif ((bp (ao P a 9 o) p&&bp (ao P c 9 o) p)&&X)then(D (aE,c))else C) (j (au P .eql 3 X d (I J 8)) λaF=>a7 (D aF) (j (aJ P 45 av 3) λaH=>j (ao P a 40 aH) λaI=>aO a (G 20 [aI] a) λaK c=>j (au P .add 9 X (Z [110,101,119,32]) aK) λaL=>D (aL,c)) (j (au P .eql 3 X d (I J 9)) λaM=>a7 (D aM) (j (aJ P 45 av 3) λaN=>j (ao P a 40 aN) λaQ=>aO a (G 20 [aQ] a) λaR c=>j (ao P c 45 e) λq=>aO c (G 16 [q] c) λaU h=>j (au P .add 9 X (Z [110,101,119,32,91]) aR) λaS=>j (au P .add 9 X aS (Z [93,40])) λaT=>j (au P .add 9 U aT aU) λaV=>j (au P .add 9 X aV (Z [41])) λaW=>bif ((bp (ao P a 45 e) q&&(bp (ao P c 45 e) q&&X))&&X)then(D (aW,h))else C) (j (au P .eql 3 X d (I J 10)) λaX=>a7 (D aX) (j (ao P a 45 e) λaZ=>aO a (G 16 [aZ] a) λa0 c=>j (au P .add 9 X (Z [108,101,110,40]) a0) λa1=>j (au P .add 9 X a1 (Z [41])) λa2=>D (a2,c)) (j (au P .eql 3 X d (I J 11)) λa3=>a7 (D a3) (D ((Z [114,101,97,100,40,41]),a)) (j (au P .eql 3 X d (I J 12)) λu=>a7 (D u) (nL G av e u a) (j (au P .eql 3 X d (I J 13)) λa4=>nL G av e a4 a))))))))))))
def II(N:Nat){ag:aa}{H:af}{r:aa×af}(h:uC (aI P aB) ag H=D r):aI P aB 16 [ag] H=D r:=cZ N (S:=λG=>uC G ag H) Tryd.func16 (λG=>eo ((aX ah ((aX ah ((aX ah (Sl G N) ((aX ah ((dx ah ((aX ah ((d_ ah (aL _) ((aX ah ((d_ ah (aL _) ((aX ah ((d_ ah (aL _) ((aX ah ((d_ ah (aL _) ((aX ah ((d_ ah (aL _) ((aX ah ((d_ ah (aL _) ((aX ah ((d_ ah (aL _) ((aX ah ((d_ ah (aL _) ((aX ah ((d_ ah (aL _) ((aX ah ((d_ ah (aL _) ((aX ah ((d_ ah (aL _) ((aX ah (Sm G N) (aL _))))) (aL _))))) (aL _))))) (aL _))))) (aL _))))) (aL _))))) (aL _))))) (aL _))))) (aL _))))) (aL _))))) (aL _))))) (aL _))))) (aL _))))) (aL _))) (aL _))) (by delta uC;generalize nL G=a;revert a;refine id ?_;intro a;kernel_rfl)) h
end
end
def GJ{H:af}{k:Int}:W (aI P aB 47 [I J k] H) λv H'=>v= I J (cG k)/\H'=H:=by
 refine cO (λ_=>Rt 0) ?_;unfold w4 pk sH qQ sI kI;unfold cG;have i:∀m:Int,k=m->(k==m)=true:=λm h=>by simpa using h
 have cP:∀m:Int,k≠m->(k==m)=false:=λm h=>by simpa using h
 by_cases a:k=24
 ·simp-implicitDefEqProofs(disch:=try exact ak)only[bg,bG,c3,i _ a];refine⟨_,_,rfl,?_,rfl⟩;rw[if_pos a];rfl
 by_cases c:k=23
 ·simp-implicitDefEqProofs(disch:=try exact ak)only[bg,bG,c3,cP _ a,i _ c];refine⟨_,_,rfl,?_,rfl⟩;rw[if_neg a,if_pos c];rfl
 by_cases l:19<=k/\k<=22
 ·have:k=19\/k=20\/k=21\/k=22:=ae;rcases this with rfl|rfl|rfl|rfl<;>exact⟨_,_,rfl,rfl,rfl⟩
 by_cases e:k=14\/k=15
 ·rcases e with rfl|rfl<;>exact⟨_,_,rfl,rfl,rfl⟩
 by_cases j:16<=k/\k<=18
 ·have:k=16\/k=17\/k=18:=ae;rcases this with rfl|rfl|rfl<;>exact⟨_,_,rfl,rfl,rfl⟩
 by_cases d:k=12\/k=13
 ·rcases d with rfl|rfl<;>exact⟨_,_,rfl,rfl,rfl⟩
 ·simp-implicitDefEqProofs(disch:=try exact ak)only[bg,bG,c3,cP 24 ae,cP 23 ae,cP 19 ae,cP 20 ae,cP 21 ae,cP 22 ae,cP 14 ae,cP 15 ae,cP 16 ae,cP 17 ae,cP 18 ae,cP 12 ae,cP 13 ae];refine⟨_,_,rfl,?_,rfl⟩;rw[if_neg a,if_neg c,if_neg l,if_neg e,if_neg j,if_neg d];rfl
def Ue{H:af}{k:Int}(h:14<=k)(a8:k<=24):W (aI P aB 46 [I J k] H) λv H'=>v= Z (fc k)/\H'=H:=by
 refine cO (λ_=>Ap 0) ?_;have a:k=14\/k=15\/k=16\/k=17\/k=18\/k=19\/k=20\/k=21\/k=22\/k=23\/k=24:=ae;unfold uG qP;rcases a with rfl|rfl|rfl|rfl|rfl|rfl|rfl|rfl|rfl|rfl|rfl<;>exact⟨_,_,rfl,rfl,rfl⟩
def I7{H:af}{k:Int}(h:k=12\/k=13):W (aI P aB 46 [I J k] H) λv H'=>v= Z (bif k==12 then[45]else[33])/\H'=H:=by
 refine cO (λ_=>Ap 0) ?_;unfold uG qP;rcases h with rfl|rfl<;>exact⟨_,_,rfl,rfl,rfl⟩
def Ir(x:aC):∀n,Lib.repeatL x n=(List.replicate n x).flatten
 |0=>rfl
 |n+1=>by rw[Lib.repeatL,Ir x n,List.replicate_succ,List.flatten_cons]
def Af{H:af}{s:aC}{n:Nat}(h:s.length*n<=140737488355328)(a:n<=9223372036854775807):aI P aB 54 [Z s,I J n] H=D (Z (List.replicate n s).flatten,H):=by
 refine oI ?_;show(if 0<=(n:Int)/\(n:Int)<=9223372036854775807/\s.length*(n:Int).toNat<=140737488355328 then D (aa.str (Lib.repeatL s (n:Int).toNat),H)else C)=_;rw[Int.toNat_natCast,if_pos ⟨ae,ae,h⟩,Ir]
def Px(a b:Int)(H:af):cx P H .max [3,3] [I J a,I J b]=D (I J (max a b)):=by
 simp[cx,vi];omega
def Ps(a b:Int)(H:af):cx P H .min [3,3] [I J a,I J b]=D (I J (min a b)):=by
 simp[cx,vj];omega
def type20{H:af}{x:aC}{z:Int}(e:0<=z)(h:z<=3)(i:x.length<=100):W (aI P aB 20 [.agg [Z x,I J z]] H) λv H'=>v= Z (flat (cn x z))/\aU H H':=by
 refine cO (λ_=>Q_ 0) ?_;have a:∀l,dR l (.agg [Z x,I J z])=D (.ptr l 0 0,.row U 2 [[Z x,I J z]]):=λl=>hn l _ rfl
 have dI:=af.bY H (.row U 2 [[Z x,I J z]]);obtain⟨n,rfl⟩:∃n:Nat,z=n:=⟨z.toNat,ae⟩;have m1:max (n:Int) 0=n:=ae;have m2:min (n:Int) 3=n:=ae;have c:∀H,aI P aB 54 [Z [91],I J n] H=D (Z (List.replicate n [91]).flatten,H):=λH=>Af (by simp only[List.length_cons,List.length_nil];omega) ae
 have d:∀H,aI P aB 54 [Z [93],I J n] H=D (Z (List.replicate n [93]).flatten,H):=λH=>Af (by simp only[List.length_cons,List.length_nil];omega) ae
 have j:((List.replicate n ([91]:aC)).flatten).length=n:=by simp
 have k:((List.replicate n ([93]:aC)).flatten).length=n:=by simp
 have aq:au P .add 9 U (Z (List.replicate n [91]).flatten) (Z x)=D (Z ((List.replicate n [91]).flatten++x)):=dk ae;have aH:au P .add 9 U (Z ((List.replicate n [91]).flatten++x)) (Z (List.replicate n [93]).flatten)=D (Z ((List.replicate n [91]).flatten++x++(List.replicate n [93]).flatten)):=dk (by rw[List.length_append];omega);rw[wQ,yF];simp-implicitDefEqProofs(disch:=try exact ak)only[reduceAdd,reduceLeDiff,reduceIte,az,a,dI,bg,Px,Ps,m1,m2,c,d,fJ,aq,aH,bo];exact a_.2 ⟨by rw[Int.toNat_natCast];unfold iJ;rw[List.append_assoc],aU.push _ _⟩
def vJ{H:af}{l i n:Nat}{cap:Option Nat}{ro:Bool}{els:List (List aa)}{j:Nat}{z:Int}(p:z=j)(q:j<n){a:bU}{kv:aa}(h:kv.one=X)(e:H.get l=D (.row ro 11 els))(c:els[i+j]? =D (a.cells kv)):
  W (aI P aB 41 [.aG l i n 11 cap,I J z] H) λv H'=>v= .agg (a.cells kv)/\aU H H':=by
 subst p;refine cO (λ_=>Ao 0) ?_;have k:¬((n:Int)<=(j:Int)):=ae;have m:(j:Int)<(n:Int):=ae;have d:(0:Int)<=(j:Int):=ae;have o:((j:Int)).toNat=j:=ae;have g1:∀b,(H.push b).get l=D (.row ro 11 els):=λb=>(aU.push H b).get e
 simp only[bU.cells]at c ⊢;unfold sE;simp-implicitDefEqProofs(disch:=try exact ak)only[reduceAdd,reduceLeDiff,reduceIte,az,k,m,d,o,g1,c,h,decide_false];exact a_.2 ⟨rfl,aU.push _ _⟩
def cz.tw{H:af}{ok:Nat->Prop}{ks:List aE}{kv:aa}(h:cz H ok ks kv)(H':af):cx P H' .len [41] [kv]=D (I J ks.length):=by
 rcases h with⟨rfl,e⟩|⟨l,i,cap,ro,els,rfl,_⟩|⟨l,i,cap,rfl,e⟩
 ·rw[e];exact tV
 ·generalize ks.length=n;exact oO
 ·rw[e];exact oO
def FK{H:af}{ok:Nat->Prop}{ks:List aE}{kv:aa}(h:cz H ok ks kv)(q:ks.length<=1000000000):W (aI P aB 41 [kv,I J 0] H) λv H'=>∃b c,v= .agg (bU.cells b c)/\c.one=X/\(∀ct d r,ks= .mk ct d::r->b=ct/\cz H ok d c)/\aU H H':=by
 cases ks with
 |nil=>
  refine cO (λ_=>Ao 0) ?_;have o:∀H',cx P H' .len [41] [kv]=D (I J 0):=λH'=>h.tw H'
  have m:(0:Int)<=0:=ae;unfold sE;simp-implicitDefEqProofs(disch:=try exact ak)only[reduceAdd,reduceLeDiff,reduceIte,az,o,m,decide_true];exact a_.2 ⟨{kind:=0,pos:=0},.aA,rfl,rfl,λ_ _ _ h=>(by cases h),aU.push _ _⟩
 |cons e r=>
  obtain⟨a,es⟩:=e;obtain⟨l,i,cap,ro,els,c,rfl,g1,bb,k⟩:=h.kW (n:=r.length+1) (by simp) (j:=0) rfl;refine(vJ (j:=0) rfl ae k.eb g1 bb).mono ?_;rintro v H' ⟨rfl,p⟩;exact⟨a,c,rfl,k.eb,λct d r h=>by cases h;exact⟨rfl,k⟩,p⟩
def u7(e:aE):Prop:=∀(d m:Nat),cA d m e->c9 e<=1000000000->∀(a:bU) (ks:List aE),e= .mk a ks->∀(H:af) (ok:Nat->Prop) (kv:aa),cz H ok ks kv->gl.jA H->W (aI P aB 16 [.agg (a.cells kv)] H) λr H'=>r= Z (flat (aY e))/\aU H H'
def Vn{H:af}{a:bU}{ks:List aE}{kv:aa}{m:Nat}(n:kv.one=X)(o:∀H',aU H H'->W (aI P aB 16 [.agg (a.cells kv)] H') λr j=>r= Z (flat (aY (.mk a ks)))/\aU H' j)(p:(flat (aY (.mk a ks))).length<=1000000000):
  W (aI P aB 44 [.agg (a.cells kv),I J m] H) λr H'=>r= Z (flat (b_ m (.mk a ks)))/\aU H H':=by
 refine cO (λ_=>Rr 0) ?_;have i:∀l,dR l (.agg (a.cells kv))=D (.ptr l 0 0,.row U 11 [a.cells kv]):=λl=>hn l _ (by simp only[bU.cells,List.all_cons,List.all_nil,hs,hS,n,Bool.and_self])
 have pp:=aU.push H (.row U 11 [a.cells kv]);have dI:=af.bY H (.row U 11 [a.cells kv]);have e:=λH' (h:aU H H')=>o H' h
 simp only[bU.cells]at i pp dI e ⊢;unfold w2;simp-implicitDefEqProofs(disch:=try exact ak)only[reduceAdd,reduceLeDiff,reduceIte,az,i];refine aW GJ ?_;rintro _ _ ⟨rfl,rfl⟩;refine⟨bo _,?_⟩;by_cases hm:((cG a.kind:Nat):Int)<(m:Int)
 ·have d:(aE.mk a ks).cc<m:=by unfold aE.cc aE.kind;simp only;omega
  simp-implicitDefEqProofs(disch:=try exact ak)only[bg,bG,c3,Nat.reduceAdd,Nat.reduceLeDiff,reduceIte,aa.cells,c8,eu,ao,c2,dI,hm,decide_true];refine aW (e _ pp) ?_;rintro _ k ⟨rfl,c⟩;refine⟨c.1,?_⟩;have aq:au P .add 9 X (Z [40]) (Z (flat (aY (.mk a ks))))=D (Z (40::flat (aY (.mk a ks)))):=lx _ _ _ _ (by simp only[List.length_cons,List.length_nil];omega);have aH:au P .add 9 X (Z (40::flat (aY (.mk a ks)))) (Z [41])=D (Z (40::flat (aY (.mk a ks))++[41])):=lx _ _ _ _ (by simp only[List.length_cons,List.length_nil];omega);simp only[aq,aH,eC];exact a_.2 ⟨by rw[qq d,di,dw];rfl,pp.trans c⟩
 ·have d:¬(aE.mk a ks).cc<m:=by unfold aE.cc aE.kind;simp only;omega
  simp-implicitDefEqProofs(disch:=try exact ak)only[bg,bG,c3,Nat.reduceAdd,Nat.reduceLeDiff,reduceIte,aa.cells,c8,eu,ao,c2,dI,hm,decide_false];refine aW (e _ pp) ?_;rintro _ k ⟨rfl,c⟩;refine⟨c.1,?_⟩;exact a_.2 ⟨by rw[mr d],pp.trans c⟩
def M3:∀(f n:Nat),n<=f->∀(g:Nat) (acc:aC),n<10^(g+1)->ho (g+1) n acc=Lib.decDigits n++acc:=by
 intro f
 induction f with
 |zero=>
  intro n c g acc _;obtain rfl:n=0:=ae;rw[ho,Lib.decDigits];rfl
 |succ f e=>
  intro n c g acc a;rw[ho,Lib.decDigits];by_cases h:n<10
  ·rw[dif_pos h,if_pos ae,Nat.mod_eq_of_lt h];rfl
  ·rw[dif_neg h,if_neg ae];have d:n/10<=f:=ae;cases g with
   |zero=>simp at a;omega
   |succ g=>
    rw[e (n/10) d g _ (by rw[Nat.pow_succ]at a;omega)];simp
def dq.leaf{B:Nat}(a:bU):dq B (.mk a []):=by rw[dq,dM];exact⟨Nat.zero_le _,trivial⟩
def dq.one{B:Nat}(c:2<=B)(a:bU){e:aE}(h:dq B e):dq B (.mk a [e]):=by
 rw[dq,dM,dM];exact⟨by simp;omega,h,trivial⟩
def dq.two{B:Nat}(c:2<=B)(a:bU){e f:aE}(h:dq B e)(a8:dq B f):dq B (.mk a [e,f]):=by
 rw[dq,dM,dM,dM];exact⟨by simp;omega,h,a8,trivial⟩
def dM.append{B:Nat}{e:aE}(h:dq B e):∀{l:List aE},dM B l->dM B (l++[e])
 |[],_=>by simp only[List.nil_append];rw[dM,dM];exact⟨h,trivial⟩
 |x::xs,a=>by
  rw[dM]at a;simp only[List.cons_append];rw[dM];exact⟨a.1,dM.append h a.2⟩
structure Lj(T:List Tok)(B n:Nat):Prop where
 row:∀lev s p,gP T n lev s=some p->dq B p.1
 iY:∀lev e s p,dq B e->iY T n lev e s=some p->dq B p.1
 unary:∀s p,lX T n s=some p->dq B p.1
 sign:∀x k s p,pG T n x k s=some p->dq B p.1
 chain:∀s p,oE T n s=some p->dq B p.1
 gm:∀e s p,dq B e->gm T n e s=some p->dq B p.1
 single:∀b c s p,jx T n b c s=some p->dq B p.1
 first:∀s p,ky T n s=some p->dq B p.1
 name:∀s p,qi T n s=some p->dq B p.1
 fresh:∀s p,qb T n s=some p->dq B p.1
 list:∀s p,nw T n s=some p->p.1.length<=B/\dM B p.1
 jn:∀l s p,l.length+n<=B->dM B l->jn T n l s=some p->p.1.length<=B/\dM B p.1
def fa{α β:Type}{x:Option α}{f:α->Option β}{b:β}(h:x.bind f=D b):∃a,x=D a/\f a=D b:=dc.1 h
def Jh(T:List Tok)(B:Nat):∀n,n+2<=B->Lj T B n
 |0,_=>by
  constructor<;>intros<;>rename_i h<;>cases h
 |n+1,j=>by
  have a:=Jh T B n ae;have d:2<=B:=ae;refine⟨?_,?_,?_,?_,?_,?_,?_,?_,?_,?_,?_,?_⟩
  ·intro lev s p h;simp only[gP]at h;split at h
   ·exact a.unary _ _ h
   ·obtain⟨q,g1,g2⟩:=fa h;exact a.iY _ _ _ _ (a.row _ _ _ g1) g2
  ·intro lev e s p he h;simp only[Go.Proofs.YtghmbpmaafnodaaDoor.iY]at h;split at h
   ·cases h;exact he
   ·obtain⟨q,g1,g2⟩:=fa h;exact a.iY _ _ _ _ (dq.two d _ he (a.row _ _ _ g1)) g2
  ·intro s p h;simp only[lX,Bool.cond_eq_ite]at h;split at h
   ·exact a.sign _ _ _ _ h
   ·split at h
    ·exact a.sign _ _ _ _ h
    ·exact a.chain _ _ h
  ·intro x k s p h;simp only[pG,Bool.cond_eq_ite]at h;split at h
   ·obtain⟨q,g1,g2⟩:=fa h;cases g2;exact dq.one d _ (a.unary _ _ g1)
   ·cases h;exact dq.leaf _
  ·intro s p h;simp only[oE]at h;obtain⟨q,g1,g2⟩:=fa h;exact a.gm _ _ _ (a.first _ _ g1) g2
  ·intro e s p he h;simp only[Go.Proofs.YtghmbpmaafnodaaDoor.gm,Bool.cond_eq_ite]at h;split at h
   ·split at h
    ·exact a.gm _ _ _ (dq.one d _ he) h
    ·split at h
     ·obtain⟨q,g1,g2⟩:=fa h;exact a.gm _ _ _ (dq.two d _ he (a.single _ _ _ _ g1)) g2
     ·cases h;exact he
   ·cases h;exact he
  ·intro b c s p h;simp only[jx,Bool.cond_eq_ite]at h;split at h
   ·obtain⟨q,g1,g2⟩:=fa h;cases g2;exact a.row _ _ q g1
   ·cases h;exact dq.leaf _
  ·intro s p h;simp only[ky,Bool.cond_eq_ite]at h;split at h
   ·cases h;exact dq.leaf _
   ·split at h
    ·cases h;exact dq.leaf _
    ·split at h
     ·exact a.name _ _ h
     ·split at h
      ·split at h
       ·split at h
        ·exact a.single _ _ _ _ h
        ·cases h;exact dq.leaf _
       ·split at h
        ·cases h;exact dq.leaf _
        ·split at h
         ·cases h;exact dq.leaf _
         ·split at h
          ·exact a.fresh _ _ h
          ·split at h
           ·obtain⟨q,g1,g2⟩:=fa h;cases g2;exact dq.one d _ (a.single _ _ _ _ g1)
           ·split at h
            ·cases h;exact dq.leaf _
            ·cases h;exact dq.leaf _
      ·cases h;exact dq.leaf _
  ·intro s p h;simp only[qi,Bool.cond_eq_ite]at h;split at h
   ·obtain⟨q,g1,g2⟩:=fa h;cases g2;rw[dq];exact a.list _ _ g1
   ·cases h;exact dq.leaf _
  ·intro s p h;simp only[qb,Bool.cond_eq_ite]at h;split at h
   ·obtain⟨q,g1,g2⟩:=fa h;cases g2;exact dq.one d _ (a.single _ _ _ _ g1)
   ·cases h;exact dq.leaf _
  ·intro s p h;simp only[nw,Bool.cond_eq_ite]at h;split at h
   ·split at h
    ·cases h;exact⟨Nat.zero_le _,by rw[dM];trivial⟩
    ·obtain⟨q,g1,g2⟩:=fa h;exact a.jn _ _ _ (by simp;omega) (by rw[dM,dM];exact⟨a.row _ _ _ g1,trivial⟩) g2
   ·cases h;exact⟨Nat.zero_le _,by rw[dM];trivial⟩
  ·intro l s p m i h;simp only[Go.Proofs.YtghmbpmaafnodaaDoor.jn,Bool.cond_eq_ite]at h;split at h
   ·obtain⟨q,g1,g2⟩:=fa h;exact a.jn _ _ _ (by simp;omega) (dM.append (a.row _ _ _ g1) i) g2
   ·cases h;exact⟨by show l.length<=B;omega,i⟩
def vN(T:List Tok)(s:al):left T s<=T.length:=by unfold left;split<;>omega
def ga.same{H:af}{v:aa}{T:List Tok}(h:ga H v T):bp (D v) v=true:=by
 rcases h with⟨rfl,_⟩|⟨l,i,cap,rfl,_⟩
 ·exact Ac
 ·exact nC _ _ _ _ _
def cT.below{H:af}{ok:Nat->Prop}{e:aE}{v:aa}(h:cT H ok e v):cT H (λl=>ok l/\l<H.next) e v:=cT.a1 (λ_ _ _ h g=>⟨⟨h,af.a6 g⟩,g⟩) e v h
def xV.fin{ok:Nat->Prop}{H b5:af}{r:Nat}{T:List Tok}{ax:aa}{s s':al}{a:b0}{es:List aE}{cg:aa}{x:Nat}(e:b6 H r T ax s)(m:cv r H b5)(d:bX b5 r ax s')(i:cz b5 (λl=>ok l/\l≠x) es cg)(j:H.next<=x)(c:cb):
  xV ok H r T ax (.mk a es [] []) s' (.agg (a.cells cg .aA .aA)) (b5.set x c):=by
 have k:=e.rd.lt;have m':=m.db (.inr j) c;refine⟨m',e.mut m' ?_,nj.2 ⟨cg,.aA,.aA,rfl,i.a1 (dA.set _ (by simp) λl h=>h.1),dr.nil _ _,dr.nil _ _⟩⟩;unfold bX at d ⊢;rw[af.get_set_other ae];exact d
def dW.append{H:af}{ok:Nat->Prop}:∀(es:List bf) (cs:List (List aa)) (e:bf) (c:List aa),dW H ok es cs->cs.length=es.length->eY H ok e (.agg c)->dW H ok (es++[e]) (cs++[c])
 |[],[],e,c,_,_,h=>by
  simp only[List.nil_append];rw[dW,dW];exact⟨h,trivial⟩
 |[],_::_,e,c,_,a,_=>by simp at a
 |_::_,[],e,c,h,_,_=>by rw[dW]at h;exact h.elim
 |aq::es,d::cs,e,c,h,a,he=>by
  rw[dW]at h;simp only[List.cons_append];rw[dW];exact⟨h.1,dW.append es cs e c h.2 (by simpa using a) he⟩
def Bb:P.underlying 71=D (.slice 112):=ah
def CK:je P 112=D 136:=ah
def yh:fE P 112=D (.agg [I J 0,Z [],Z [],I J 0,.aA,.aA,.aA,I J 0,I J 0]):=ah
def L9{H:af}{L:Nat}{cs:List aa}{cap:Option Nat}{ro:Bool}(a:H.get L=D (.row ro 9 [cs])):df P H [71,71] .aA (.aG L 0 1 9 cap)=D (.aG H.next 0 1 9 C,H.push (.row U 9 [cs])):=by
 simp[df,jj,kR,eg,Bb,sY,CK,yh,jG,fr,a,aa.cells]
def L_{H:af}{L l n:Nat}{cs:List aa}{els:List (List aa)}{cap:Option Nat}{ro:Bool}(d:H.get L=D (.row ro 9 [cs]))(e:H.get l=D (.row U 9 els))(h:els.length=n)(i:n<=1000000000):df P H [71,71] (.aG l 0 n 9 C) (.aG L 0 1 9 cap)=D (.aG H.next 0 (n+1) 9 C,(H.set l .dead).push (.row U 9 (els++[cs]))):=by
 have a:(n+1)*136<=140737488355328:=ae;have c:n+1<=9223372036854775807:=ae;simp[df,jj,kR,eg,Bb,sY,CK,yh,jG,fr,d,e,aa.cells,h,a,c];rw[List.take_of_length_le ae]
def Up(l:Nat)(cs:List aa)(h:cs.length=9)(a:cs.all aa.one=X):cl P l 71 1 [(0,.agg cs)]=D (.aG l 0 1 9 (D 1),.row U 9 [cs]):=by
 simp[cl,Bb,sY,yh,aa.cells,kk,h,a,hs,hS,wi]
def nf(n0:Nat)(H:af)(l:List bf)(v:aa):Prop:=(v= .aA/\l=[])\/∃L els,v= .aG L 0 l.length 9 C/\H.get L=D (.row U 9 els)/\n0<=L/\els.length=l.length/\dW H (λk=>n0<=k/\k≠L) l els
def nf.mut{n0 r:Nat}{H H':af}{l:List bf}{v:aa}(h:nf n0 H l v)(m:cv r H H')(a:r<n0):nf n0 H' l v:=by
 rcases h with h|⟨L,els,aq,aH,bu,cq,er⟩
 ·exact .inl h
 ·exact .inr ⟨L,els,aq,m.get aH ae,bu,cq,dW.a1 (eS.mut m ae λ_ h=>h) _ _ er⟩
def nf.Jq{n0:Nat}{H:af}{l:List bf}{v:aa}(h:nf n0 H l v):dr H (bx n0) l v:=by
 rcases h with⟨rfl,rfl⟩|⟨L,els,aq,aH,bu,cq,er⟩
 ·exact dr.nil _ _
 ·exact .inr (.inl ⟨L,0,C,U,els,aq,bu,aH,by rw[List.drop_zero];exact dW.a1 (eS.nu λ_ h=>h.1) _ _ er⟩)
def nf.app{n0 m:Nat}{H:af}{l:List bf}{v:aa}(h:nf n0 H l v){e:bf}{cs:List aa}(he:eY H (bx m) e (.agg cs))(hm:n0<=m)(q:∀L n c,v= .aG L 0 n 9 c->L<m)(u:n0<=H.next)(p:l.length<=1000000000):
  ∃j H',df P (H.push (.row U 9 [cs])) [71,71] v (.aG H.next 0 1 9 (D 1))=D (j,H')/\nf n0 H' (l++[e]) j/\dp (n0<= ·) H H'/\H.next+1<=H'.next:=by
 have i:=af.bY H (.row U 9 [cs]);rcases h with⟨rfl,rfl⟩|⟨L,els,rfl,aH,bu,cq,er⟩
 ·refine⟨_,_,L9 i,.inr ⟨_,[cs],rfl,af.bY _ _,by simp only[af.ch];omega,rfl,?_⟩,(((aU.push _ _).bT _).mut _),by simp only[af.ch];omega⟩;rw[List.nil_append,dW,dW];refine⟨eY.a1 ⟨λk ro els a g=>⟨⟨by unfold bx at a;omega,?_⟩,((aU.push _ _).bT _).get g⟩,λk ro els a g=>⟨⟨by unfold bx at a;omega,?_⟩,((aU.push _ _).bT _).get g⟩⟩ e _ he,trivial⟩
  all_goals have:=af.a6 g;simp only[af.ch];omega
 ·have s:=q L _ _ rfl;have w:=af.a6 aH;have o:(H.push (.row U 9 [cs])).get L=D (.row U 9 els):=(aU.push _ _).get aH;have d:∀k b,H.get k=D b->k≠L->(((H.push (.row U 9 [cs])).set L .dead).push (.row U 9 (els++[cs]))).get k=D b:=λk b g a=>by
   have:=af.a6 g;rw[af.dS (by simp only[af.dK,af.ch];omega),af.get_set_other ae,af.dS ae];exact g
  refine⟨_,_,L_ i o cq p,.inr ⟨_,els++[cs],by rw[List.length_append];rfl,af.bY _ _,by simp only[af.dK,af.ch];omega,by simp[cq],?_⟩,?_,by simp only[af.dK,af.ch];omega⟩
  ·refine dW.append _ _ _ _ (dW.a1 ⟨λk ro es a g=>⟨⟨a.1,?_⟩,d _ _ g a.2⟩,λk ro es a g=>⟨⟨a.1,?_⟩,d _ _ g a.2⟩⟩ _ _ er) cq (eY.a1 ⟨λk ro es a g=>⟨⟨by unfold bx at a;omega,?_⟩,d _ _ g (by unfold bx at a;omega)⟩,λk ro es a g=>⟨⟨by unfold bx at a;omega,?_⟩,d _ _ g (by unfold bx at a;omega)⟩⟩ e _ he)
   all_goals have:=af.a6 g;simp only[af.dK,af.ch];omega
  ·exact(((aU.push _ _).mut _).db (.inl bu) _).bT _
def cK(H:af)(ok:Nat->Prop)(H':af)(ok':Nat->Prop):Prop:=∀l b,ok l->H.get l=D b->ok' l/\H'.get l=D b
def cK.s{H H':af}{ok ok':Nat->Prop}(h:cK H ok H' ok'):eS H ok H' ok':=⟨λl _ _ a b=>h l _ a b,λl _ _ a b=>h l _ a b⟩
def cK.le{H:af}{ok ok':Nat->Prop}(h:∀l,ok l->ok' l):cK H ok H ok':=λl _ a b=>⟨h l a,b⟩
def cK.mut{H H':af}{ok:Nat->Prop}{S:Nat->Prop}(m:dp S H H')(h:∀l,ok l->¬S l):cK H ok H' ok:=λl _ a b=>⟨a,m.get b (h l a)⟩
def cK.aR{H H':af}{ok:Nat->Prop}(m:aU H H'):cK H ok H' ok:=λ_ _ a b=>⟨a,m.get b⟩
def cK.trans{H1 d e:af}{a b c:Nat->Prop}(h:cK H1 a d b)(k:cK d b e c):cK H1 a e c:=λl x y z=>k l x (h l x y z).1 (h l x y z).2
structure jB(α:Type) where
 esz:Nat
 V:af->(Nat->Prop)->α->List aa->Prop
 len:∀{H ok a cs},V H ok a cs->cs.length=esz/\cs.all aa.one=true
 a1:∀{H ok H' ok'} {a:α} {cs},cK H ok H' ok'->V H ok a cs->V H' ok' a cs
section
variable {α:Type}{K:jB α}{H H':af}{ok ok':Nat->Prop}
def du(K:jB α)(ok:Nat->Prop)(H:af)(l:List α)(v:aa):Prop:=(v= .aA/\l=[])\/∃L els,v= .aG L 0 l.length K.esz C/\ok L/\H.get L=D (.row U K.esz els)/\els.length=l.length/\∀(i:Nat) (a:α),l[i]? =D a->∃cs,els[i]? =D cs/\K.V H (λk=>ok k/\k≠L) a cs
def dD(K:jB α)(H:af)(ok:Nat->Prop)(l:List α)(v:aa):Prop:=(v= .aA/\l=[])\/(∃L i cap ro els,v= .aG L i l.length K.esz (Option.map (· +l.length) cap)/\ok L/\H.get L=D (.row ro K.esz els)/\∀(j:Nat) (a:α),l[j]? =D a->∃cs,els[i+j]? =D cs/\K.V H ok a cs)\/∃L i cap,v= .aG L i 0 K.esz cap/\l=[]
def du.one{l:List α}{v:aa}(h:du K ok H l v):v.one=true:=by
 rcases h with⟨rfl,_⟩|⟨L,els,rfl,_⟩<;>rfl
def dD.one{l:List α}{v:aa}(h:dD K H ok l v):v.one=true:=by
 rcases h with⟨rfl,_⟩|⟨L,i,cap,ro,els,rfl,_⟩|⟨L,i,cap,rfl,_⟩<;>rfl
def du.nil:du K ok H [] .aA:= .inl ⟨rfl,rfl⟩
def dD.nil:dD K H ok [] .aA:= .inl ⟨rfl,rfl⟩
def du.a1{l:List α}{v:aa}(p:cK H ok H' ok')(h:du K ok H l v):du K ok' H' l v:=by
 rcases h with h|⟨L,els,aq,aH,bu,cq,er⟩
 ·exact .inl h
 ·refine .inr ⟨L,els,aq,(p _ _ aH bu).1,(p _ _ aH bu).2,cq,λi a d=> ?_⟩;obtain⟨cs,bb,e⟩:=er i a d;exact⟨cs,bb,K.a1 (λk b c g=>⟨⟨(p _ _ c.1 g).1,c.2⟩,(p _ _ c.1 g).2⟩) e⟩
def dD.a1{l:List α}{v:aa}(p:cK H ok H' ok')(h:dD K H ok l v):dD K H' ok' l v:=by
 rcases h with h|⟨L,i,cap,ro,els,aq,aH,bu,er⟩|h
 ·exact .inl h
 ·refine .inr (.inl ⟨L,i,cap,ro,els,aq,(p _ _ aH bu).1,(p _ _ aH bu).2,λj a c=> ?_⟩);obtain⟨cs,bb,d⟩:=er j a c;exact⟨cs,bb,K.a1 p d⟩
 ·exact .inr (.inr h)
def du.aG{l:List α}{v:aa}(h:du K ok H l v):dD K H ok l v:=by
 rcases h with h|⟨L,els,aq,aH,bu,cq,er⟩
 ·exact .inl h
 ·refine .inr (.inl ⟨L,0,C,U,els,aq,aH,bu,λj a c=> ?_⟩);obtain⟨cs,bb,d⟩:=er j a c;exact⟨cs,by rw[Nat.zero_add];exact bb,K.a1 (cK.le λ_ h=>h.1) d⟩
structure l3(t e esz:Nat):Prop where
 un:P.underlying t=some (.slice e)
 ts:cQ P e=some esz
 hO:∃b,je P e=some b/\b<=200
 yg:∃z,fE P e=some z/\z.cells.length=esz/\z.cells.all aa.one=true
 pos:0<esz/\esz<=100
def Mb{t e esz:Nat}(y:l3 t e esz){L:Nat}{cs:List aa}{cap:Option Nat}{ro:Bool}(d:H.get L=D (.row ro esz [cs])):df P H [t,t] .aA (.aG L 0 1 esz cap)=D (.aG H.next 0 1 esz C,H.push (.row U esz [cs])):=by
 obtain⟨b,c,j⟩:=y.hO;obtain⟨z,h,i,_⟩:=y.yg;have a:b<=140737488355328:=ae;simp[df,jj,kR,eg,y.un,y.ts,c,h,i,y.pos.1,jG,fr,d,a]
def Mc{t e esz:Nat}(y:l3 t e esz){L l n:Nat}{cs:List aa}{els:List (List aa)}{cap:Option Nat}{ro:Bool}(i:H.get L=D (.row ro esz [cs]))(j:H.get l=D (.row U esz els))(k:els.length=n)(p:n<=1000000000):df P H [t,t] (.aG l 0 n esz C) (.aG L 0 1 esz cap)=D (.aG H.next 0 (n+1) esz C,(H.set l .dead).push (.row U esz (els++[cs]))):=by
 obtain⟨b,h,d⟩:=y.hO;obtain⟨z,m,o,_⟩:=y.yg;have a:(n+1)*b<=140737488355328:=Nat.le_trans (Nat.mul_le_mul_left (n+1) d) ae;have c:n+1<=9223372036854775807:=ae;simp[df,jj,kR,eg,y.un,y.ts,h,m,o,y.pos.1,jG,fr,i,j,k,a,c];rw[List.take_of_length_le ae]
def uS{t e esz:Nat}(y:l3 t e esz)(l:Nat){cs:List aa}(h:cs.length=esz)(d:cs.all aa.one=X):cl P l t 1 [(0,.agg cs)]=D (.aG l 0 1 esz (D 1),.row U esz [cs]):=by
 obtain⟨z,i,j,k⟩:=y.yg;have n:1*esz<=16777216:=by have:=y.pos.2;omega
 have a:esz<=16777216:=by have:=y.pos.2;omega
 have c:(aa.agg cs).cells=cs:=rfl;simp[cl,y.un,y.ts,i,j,kk,h,d,a,c];have m:∀x∈z.cells,x.one=true:=by simpa using k
 rw[decide_eq_true m];rfl
def du.app{t e:Nat}(y:l3 t e K.esz){l:List α}{v:aa}(h:du K ok H l v){okE:Nat->Prop}{a:α}{cs:List aa}(he:K.V H okE a cs)(m:∀k b,okE k->H.get k=D b->ok' k/\∀L,v= .aG L 0 l.length K.esz C->k≠L)(j:∀k b,ok k->H.get k=D b->ok' k)(p:ok' (H.next+1))(B:l.length<=1000000000):
  ∃s H',df P (H.push (.row U K.esz [cs])) [t,t] v (.aG H.next 0 1 K.esz (D 1))=D (s,H')/\du K ok' H' (l++[a]) s/\H.next+1<=H'.next/\(∀k,k<H.next->(∀L,v= .aG L 0 l.length K.esz C->k≠L)->H'.get k=H.get k):=by
 have n:=af.bY H (.row U K.esz [cs]);rcases h with⟨rfl,rfl⟩|⟨L,els,rfl,aH,bu,cq,er⟩
 ·refine⟨_,_,Mb y n,.inr ⟨_,[cs],rfl,by simpa only[af.ch]using p,af.bY _ _,rfl,λi b d=> ?_⟩,by simp only[af.ch];omega,λk j _=> ?_⟩
  ·rcases i with _|i
   ·cases d;refine⟨cs,rfl,K.a1 (λk b j g=> ?_) he⟩;have:=af.a6 g;exact⟨⟨(m k b j g).1,by simp only[af.ch];omega⟩,((aU.push _ _).bT _).get g⟩
   ·simp at d
  ·rw[af.dS (by simp only[af.ch];omega),af.dS ae]
 ·have M:=af.a6 bu;have u:=(aU.push H (.row U K.esz [cs])).get bu;have q:∀k b,H.get k=D b->k≠L->(((H.push (.row U K.esz [cs])).set L .dead).push (.row U K.esz (els++[cs]))).get k=D b:=λk b g j=>by
   have:=af.a6 g;rw[af.dS (by simp only[af.dK,af.ch];omega),af.get_set_other ae,af.dS ae];exact g
  refine⟨_,_,Mc y n u cq B,.inr ⟨_,els++[cs],by rw[List.length_append];rfl,by simpa only[af.dK,af.ch]using p,af.bY _ _,by simp[cq],λi b d=> ?_⟩,by simp only[af.dK,af.ch];omega,λk j E=> ?_⟩
  ·by_cases A:i<l.length
   ·rw[List.getElem?_append_left A]at d;obtain⟨c,bb,G⟩:=er i b d;refine⟨c,by rw[List.getElem?_append_left ae];exact bb,K.a1 (λk x o g=> ?_) G⟩;have:=af.a6 g;exact⟨⟨j k x o.1 g,by simp only[af.dK,af.ch];omega⟩,q k x g o.2⟩
   ·rw[List.getElem?_append_right ae]at d;have w:i-l.length=0:=by
     rcases F:i-l.length with _|z
     ·rfl
     ·rw[F]at d;simp at d
    rw[w]at d;cases d;refine⟨cs,by rw[List.getElem?_append_right ae,show i-els.length=0 by omega];rfl,K.a1 (λk x j g=> ?_) he⟩;have:=af.a6 g;exact⟨⟨(m k x j g).1,by simp only[af.dK,af.ch];omega⟩,q k x g ((m k x j g).2 L rfl)⟩
  ·rw[af.dS (by simp only[af.dK,af.ch];omega),af.get_set_other (by exactλe=>E L rfl e.symm),af.dS ae]
end
def rW:jB aC:=⟨1,λ_ _ s cs=>cs=[Z s],λh=>by rw[h];exact⟨rfl,rfl⟩,λ_ h=>h⟩
def GI:l3 50 9 1:=⟨ah,A6,⟨_,(by kernel_rfl:je P 9=D 16),aK⟩,⟨_,(by kernel_rfl:fE P 9=D (Z [])),rfl,rfl⟩,aK⟩
def Jx:∀(els:List (List aa)) (l:List aC),els.length=l.length->(∀(i:Nat) (a:aC),l[i]? =D a->els[i]? =D [Z a])->n_ els=D l
 |[],[],_,_=>rfl
 |[],_::_,h,_=>by cases h
 |_::_,[],h,_=>by cases h
 |e::els,s::l,j,h=>by
  have c:=h 0 s rfl;simp only[List.getElem?_cons_zero,aZ]at c;subst c;rw[n_,Jx els l (by simpa using j) λi a d=>by simpa using h (i+1) a (by simpa using d)];rfl
def AK(l:Nat)(s:aC):cl P l 50 1 [(0,Z s)]=D (.aG l 0 1 1 (D 1),.row U 1 [[Z s]]):=ah
def vI{H:af}{ok:Nat->Prop}{l:List aC}{v:aa}(h:du rW ok H l v){sep:aC}(k:l.length<=1000000000)(e:(Lib.join l sep).length<=140737488355328):aI P aB 59 [v,Z sep] H=D (Z (Lib.join l sep),H):=by
 refine oI ?_;rcases h with⟨rfl,rfl⟩|⟨L,els,rfl,_,bu,cq,er⟩
 ·rfl
 ·have c:fr H L 0 l.length 1=D els:=by
   unfold fr;rw[bu];show(if rW.esz=1/\0+l.length<=els.length then D ((els.drop 0).take l.length)else C)=_;rw[if_pos ⟨rfl,ae⟩,List.drop_zero,List.take_of_length_le ae]
  have ar:n_ els=D l:=Jx els l cq λi a d=>by
   obtain⟨cs,bb,j⟩:=er i a d;rw[bb,show cs=[Z a]from j]
  show(match fr H L 0 l.length 1 with
   |some es=>(match n_ es with
    |some xs=>if xs.length<=140737488355328/\(Lib.join xs sep).length<=140737488355328 then D (aa.str (Lib.join xs sep),H)else C
    |none=>C)
   |none=>C)=_
  rw[c];simp only
  rw[ar];simp only
  rw[if_pos ⟨ae,e⟩]
def y6:∀ks:List aE,Lib.join (ks.map λe=>flat (aY e)) [44,32]=flat (en (cD ks))
 |[]=>rfl
 |[e]=>by rw[List.map_cons,List.map_nil,Lib.join_one,cD,cD,en]
 |e::f::r=>by
  have a:=y6 (f::r);rw[List.map_cons,Lib.join_cons,List.map_cons,Lib.joinTail,List.map_cons,List.flatten_cons];rw[List.map_cons,Lib.join_cons,Lib.joinTail]at a;have aq:cD (e::f::r)=(e.cc,aY e)::(f.cc,aY f)::cD r:=by rw[cD,cD]
  have aH:cD (f::r)=(f.cc,aY f)::cD r:=by rw[cD]
  rw[aq,en,dw,di,e3,<-aH,<-a]
  ·simp only[List.append_assoc];rfl
  ·intro h;cases h
def du.aR{α:Type}{K:jB α}{H H':af}{ok:Nat->Prop}{l:List α}{v:aa}(h:du K ok H l v)(p:aU H H'):du K ok H' l v:=h.a1 (cK.aR p)
section
variable {N:Nat}{H0:af}{L i n:Nat}{cap:Option Nat}{ro:Bool}{els:List (List aa)}{ok:Nat->Prop}
def Gx(B:H0.get L=D (.row ro 11 els))(E:gl.jA H0)(ah:n<=1000000000){all:List aE}(ad:(flat (en (cD all))).length<=1000000000):∀(es:List aE) (j k:Nat) (done:List aE) (v:aa) (H:af),all=done++es->done.length=j->(∀e∈es,u7 e/\∃d,cA d 0 e)->(∀e∈es,c9 e<=1000000000)->dz H0 ok es (els.drop (i+j))->n=j+es.length->es.length<k->aU H0 H->du rW (λl=>H0.next<=l) H (done.map λe=>flat (aY e)) v->
  W (nT (aI P aB) N k v (.aG L i n 11 cap) (I J n) (I J j) H) λv H'=>v= Z (flat (en (cD all)))/\aU H0 H'
 |_,_,0,_,_,_,_,_,_,_,_,_,w,_,_=>ae
 |[],j,k+1,done,v,H,m,A,ar,hw,he,o,w,pp,s=>by
  have u:¬((j:Int)<(n:Int)):=by simp at o;omega
  rw[List.append_nil]at m;subst m;have aq:aI P aB 59 [v,Z [44,32]] H=D (Z (flat (en (cD all))),H):=by
   rw[<-y6];exact vI s (by rw[List.length_map];simp at o;omega) (by rw[y6];omega)
  simp-implicitDefEqProofs(disch:=try exact ak)only[nT,sF,qO,bg,bG,c3,u,decide_false,aq,fJ,bo];exact a_.2 ⟨rfl,pp⟩
 | .mk a ks::es,j,k+1,done,v,H,m,A,ar,hw,he,o,w,pp,s=>by
  simp only[List.length_cons]at o w;have u:(j:Int)<(n:Int):=ae;have al:((j:Int)).toNat=j:=ae;have V:(0:Int)<=(j:Int):=ae;have av:IntKind.i64.wrap ((j:Int)+1)=((j+1:Nat):Int):=by rw[wrap_i64 ae ae];omega
  obtain⟨cs,bb,ao,ap⟩:=he.cons;obtain⟨x,au,M⟩:=iO.1 ao;cases au;obtain⟨aF,d,am⟩:=ar _ (List.mem_cons_self ..);have g1:=pp.get B;have ai:=M.eb;have p:=pp.bT (.row U 11 [a.cells x]);have G:=aF d 0 am (hw _ (List.mem_cons_self ..)) a ks rfl _ ok x (M.aR p) (E.aR p);simp only[bU.cells]at bb p G;simp-implicitDefEqProofs(disch:=try exact ak)only[nT,sF,reduceAdd,reduceLeDiff,reduceIte,az,u,V,al,decide_true,g1,bb,ai];refine aW G ?_;rintro _ c ⟨rfl,y⟩;refine⟨y.1,?_⟩;have q:=p.trans y;have z:=(s.aR (aU.push H (.row U 11 [a.cells x]))).aR y;have aj:cl P c.next 50 1 [(0,Z (flat (aY (.mk a ks))))]=D (.aG c.next 0 1 1 (D 1),.row U 1 [[Z (flat (aY (.mk a ks)))]]):=AK _ _
  have ax:done.length<=1000000000:=ae;obtain⟨O,H',aq,Q,R,b3⟩:=du.app (K:=rW) (ok':=λl=>H0.next<=l) GI z (okE:=λ_=>False) (a:=flat (aY (.mk a ks))) (cs:=[Z (flat (aY (.mk a ks)))]) rfl (λ_ _ h=>h.elim) (λ_ _ h _=>h) (by have:=q.1;show H0.next<=c.next+1;omega) (by rw[List.length_map];omega);have an:aU H0 H':=by
   refine⟨by have:=q.1;omega,λl ag=> ?_⟩;have:=q.1;rw[b3 l ae λL F ab=> ?_]
   ·exact q.2 l ag
   ·subst ab;rcases z with⟨rfl,_⟩|⟨L',_,rfl,aw,_⟩
    ·cases F
    ·cases F;omega
  have T:df P (c.push (.row U 1 [[Z (flat (aY (.mk a ks)))]])) [50,50] v (.aG c.next 0 1 1 (D 1))=D (O,H'):=aq;have S:(c.push (.row U 1 [[Z (flat (aY (.mk a ks)))]])).next<=H'.next:=by rw[af.ch];exact R
  simp-implicitDefEqProofs(disch:=try exact ak)only[bg,bG,aj,T,fJ,S,c3,av];exact Gx B E ah ad es (j+1) k (done++[.mk a ks]) O H' (by rw[m,List.append_assoc];rfl) (by rw[List.length_append,A];rfl) (λe h=>ar e (List.mem_cons_of_mem _ h)) (λe h=>hw e (List.mem_cons_of_mem _ h)) (by rw[show i+(j+1)=i+j+1 by omega];exact ap) ae ae an (by rw[List.map_append];exact Q)
end
def Pe{H:af}{ok:Nat->Prop}{ks:List aE}{kv:aa}(h:cz H ok ks kv)(k:gl.jA H)(ar:∀e∈ks,u7 e/\∃d,cA d 0 e)(hw:∀e∈ks,c9 e<=1000000000)(p:ks.length<=100000000)(n:(flat (en (cD ks))).length<=1000000000):W (aI P aB 45 [kv] H) λv H'=>v= Z (flat (en (cD ks)))/\aU H H':=by
 refine cO (λ_=>Rs (ks.length+1)) ?_;have j:=λH'=>h.tw H'
 rw[w3];simp-implicitDefEqProofs(disch:=try exact ak)only[reduceAdd,reduceLeDiff,reduceIte,az,j];by_cases c:ks.length=0
 ·obtain rfl:=List.length_eq_zero_iff.1 c;have m:¬((0:Int)<(0:Int)):=ae;have aq:aI P aB 59 [.aA,Z [44,32]] H=D (Z [],H):=vI (ok:=λ_=>True) (l:=[]) (.inl ⟨rfl,rfl⟩) (Nat.zero_le _) (Nat.zero_le _);simp-implicitDefEqProofs(disch:=try exact ak)only[nT,sF,qO,reduceAdd,reduceLeDiff,reduceIte,az,m,decide_false,aq,fJ,Int.natCast_zero];exact a_.2 ⟨rfl,.refl _⟩
 ·rcases h with⟨_,a⟩|⟨L,i,cap,ro,els,rfl,_,g1,o⟩|⟨_,_,_,_,a⟩
  ·exact absurd a c
  ·exact Gx (N:=ks.length+1) g1 k ae n ks 0 (ks.length+1) [] .aA H rfl rfl ar hw (by rw[Nat.add_zero];exact o) ae ae (.refl _) (.inl ⟨rfl,rfl⟩)
  ·exact absurd a c
open Classical in
def OL{H:af}(c:gl.jA H){n:Int}(d:0<=n)(a:n<=9223372036854775807):aI P aB 42 [I J n] H=D (Z (ho 20 n.toNat []),H):=by
 refine oI ?_;show(if-9223372036854775808<=n/\n<=9223372036854775807/\H.get 0=D (.row X 1 ld)then D (aa.str (Lib.itoa n),H)else C)=_;rw[if_pos ⟨ae,a,c.xn⟩];unfold Lib.itoa;rw[if_neg ae,M3 n.toNat n.toNat (bo _) 19 [] (by have:=uq;omega),List.append_nil]
def D7{H:af}(b:Bool):aI P aB 43 [.bool b] H=D (Z (bif b then[116,114,117,101]else[102,97,108,115,101]),H):=by
 refine oI ?_;show D (aa.str (Lib.formatBool b),H)=_;cases b<;>rfl
def bR:∀e:aE,u7 e
 | .mk a ks=>by
  have ar:∀e∈ks,u7 e:=λe he=>bR e
  intro d m ax hw bt a6 he H ok kv M ay;cases he;have h:=ax.low (m':=0) (Nat.zero_le _);clear ax;have hlen:=r6 h;have aP:=M.eb;have ag:∀l,dR l (.agg (a.cells kv))=D (.ptr l 0 0,.row U 11 [a.cells kv]):=λl=>hn l _ (by simp only[bU.cells,List.all_cons,List.all_nil,hs,hS,aP,Bool.and_self])
  have pp:=aU.push H (.row U 11 [a.cells kv]);have dI:=af.bY H (.row U 11 [a.cells kv]);have V:∀{O m':Nat} {b:bU} {i:List aE},aE.mk b i∈ks->cA O m' (.mk b i)->c9 (.mk b i)<=1000000000/\∀(H':af) (K:aa),cz H' ok i K->aU H H'->W (aI P aB 16 [.agg (b.cells K)] H') λr aj=>r= Z (flat (aY (.mk b i)))/\aU H' aj:=by
   intro O m' b i hm v;have hle:c9 (.mk b i)<=cr ks:=by
    clear ar hlen M hw h ag pp dI
    induction ks with
    |nil=>cases hm
    |cons k r aX=>
     rw[cr];rcases List.mem_cons.1 hm with rfl|hm
     ·omega
     ·have:=aX hm;omega
   rw[c9]at hw;have aC:c9 (.mk b i)<=1000000000:=ae;exact⟨aC,λH' K ah av=>ar _ hm O m' v aC b i rfl H' ok K ah (ay.aR av)⟩
  have gA:∀{O m':Nat} {b:bU} {i:List aE} (n:Nat) {z:Int},z=n->aE.mk b i∈ks->cA O m' (.mk b i)->∀(H':af) (K:aa),cz H' ok i K->aU H H'->W (aI P aB 44 [.agg (b.cells K),I J z] H') λr aj=>r= Z (flat (b_ n (.mk b i)))/\aU H' aj:=by
   intro O m' b i n z aT hm v H' K ah av;subst aT;obtain⟨y,q⟩:=V hm v;have:=r6 v;exact Vn ah.eb (λN Q=>q N K (ah.aR Q) (av.trans Q)) ae
  have aM:ks.length<=1000000000:=by have:=tR ks;rw[c9]at hw;omega
  refine cO (λ_=>II 0) ?_;have ap:=FK (M.aR pp) aM;simp only[bU.cells]at ag pp dI ap ⊢;rw[uC];simp-implicitDefEqProofs(disch:=try exact ak)only[reduceAdd,reduceLeDiff,reduceIte,az,ag];refine aW ap ?_;rintro _ N ⟨b,E,rfl,bO,an,Q⟩;refine⟨Q.1,?_⟩;have R:=Q.bT (.row U 11 [b.cells E]);have u:=pp.trans R;have s:=R.get dI;have g3:=af.bY N (.row U 11 [b.cells E]);have L:∀ct i r,ks= .mk ct i::r->b=ct/\cz (N.push (.row U 11 [b.cells E])) ok i E:=λct i r h=>⟨(an ct i r h).1,(an ct i r h).2.aR R⟩
  simp only[bU.cells]at R u s g3 L;clear ap an;simp-implicitDefEqProofs(disch:=try exact ak)only[reduceAdd,reduceLeDiff,reduceIte,az,bO,s];have ai:=M.aR u;have ao:=ay.aR u;generalize N.next=a8 at g3 ⊢
  generalize N.push (.row U 11 [[I J b.kind,I J b.n,Z b.name,Z b.b4,I J b.cy,E,I J b.pos,I J b.jc,I J b.sX,I J b.na,I J b.ref]])=T at R u s g3 L ai ao ⊢;clear Q R ag pp dI;generalize H.next=a7 at s ⊢
  clear N;cases h with
  |par y q w=>omega
  | @int d m n p y q w=>
   have aq:=OL ao q w;simp-implicitDefEqProofs(disch:=try exact ak)only[reduceAdd,reduceLeDiff,reduceIte,az,Int.reduceBEq,s,aq,fJ];refine a_.2 ⟨?_,u⟩;rw[dZ];show _=aa.str (flat [.t ⟨2,[],n,0⟩]);simp[flat,bK.rb,im]
  | @bool d m n p y q=>
   have aq:aI P aB 43 [.bool X] T=D (Z [116,114,117,101],T):=D7 X;have aH:aI P aB 43 [.bool U] T=D (Z [102,97,108,115,101],T):=D7 U;rcases q with rfl|rfl
   ·simp-implicitDefEqProofs(disch:=try exact ak)only[reduceAdd,reduceLeDiff,reduceIte,az,Int.reduceBEq,Int.reduceBNe,s,aq,aH,fJ];exact a_.2 ⟨by rw[dZ];rfl,u⟩
   ·simp-implicitDefEqProofs(disch:=try exact ak)only[reduceAdd,reduceLeDiff,reduceIte,az,Int.reduceBEq,Int.reduceBNe,s,aq,aH,fJ];exact a_.2 ⟨by rw[dZ];rfl,u⟩
  | @null d m x z p y q=>
   simp-implicitDefEqProofs(disch:=try exact ak)only[reduceAdd,reduceLeDiff,reduceIte,az,Int.reduceBEq,s];refine aW (type20 q.1 q.2.1 (by have:=ib q;omega)) ?_;rintro _ F ⟨rfl,o⟩;refine⟨o.1,?_⟩;have a1:=kD x z;have:=ib q;have:=q.2.1;have aq:au P .add 9 X (Z [110,117,108,108,32]) (Z (flat (cn x z)))=D (Z ([110,117,108,108,32]++flat (cn x z))):=dk (by simp only[List.length_cons,List.length_nil];omega);simp only[aq,eC];exact a_.2 ⟨by rw[dZ];rfl,u.trans o⟩
  | @var d m x p y q=>
   simp-implicitDefEqProofs(disch:=try exact ak)only[reduceAdd,reduceLeDiff,reduceIte,az,Int.reduceBEq,s];exact a_.2 ⟨by rw[dZ];show _=aa.str (flat [cC x]);rw[kz,ds,List.append_nil],u⟩
  | @field d m x p e y q w=>
   obtain⟨ct,i⟩:=e;obtain⟨rfl,A⟩:=L _ _ _ rfl;rw[oW,dj]at hlen;have v:=gA 7 rfl (by simp) w _ E A u;simp only[bU.cells]at v;simp-implicitDefEqProofs(disch:=try exact ak)only[reduceAdd,reduceLeDiff,reduceIte,az,Int.reduceBEq,s,g3];refine aW v ?_;rintro _ F ⟨rfl,o⟩;refine⟨o.1,?_⟩;have G:=o.get s;have:=fP q;have aq:au P .add 9 X (Z (flat (b_ 7 (.mk b i)))) (Z [46])=D (Z (flat (b_ 7 (.mk b i))++[46])):=dk (by simp only[List.length_cons,List.length_nil];omega);have aH:au P .add 9 U (Z (flat (b_ 7 (.mk b i))++[46])) (Z x)=D (Z (flat (b_ 7 (.mk b i))++[46]++x)):=dk (by simp only[List.length_append,List.length_cons,List.length_nil];omega)
   simp-implicitDefEqProofs(disch:=try exact ak)only[reduceAdd,reduceLeDiff,reduceIte,az,s,G,aq,aH];exact a_.2 ⟨by rw[oW,dw,di,kz,ds];simp,u.trans o⟩
  | @item d m p e f y q w=>
   obtain⟨ct,i⟩:=e;obtain⟨c,cs⟩:=f;obtain⟨rfl,A⟩:=L _ _ _ rfl;obtain⟨l',aV,aF,aZ,aJ,kw,rfl,am,aw,ab⟩:=ai.kW (n:=2) rfl (j:=1) rfl;rw[oX,dj,dG,dj]at hlen;have v:=gA 7 rfl (by simp) q _ E A u;simp only[bU.cells]at v;simp-implicitDefEqProofs(disch:=try exact ak)only[reduceAdd,reduceLeDiff,reduceIte,az,Int.reduceBEq,s,g3];refine aW v ?_;rintro _ F ⟨rfl,o⟩;refine⟨o.1,?_⟩;have G:=o.get s;simp-implicitDefEqProofs(disch:=try exact ak)only[reduceAdd,reduceLeDiff,reduceIte,az,G];refine aW (vJ (j:=1) rfl ae ab.eb (o.get am) aw) ?_;rintro _ al ⟨rfl,B⟩;refine⟨B.1,?_⟩;have aS:=(V (by simp) w).2 al kw (ab.aR (o.trans B)) ((u.trans o).trans B)
   refine aW aS ?_;rintro _ aD ⟨rfl,ad⟩;refine⟨ad.1,?_⟩;have aq:au P .add 9 X (Z (flat (b_ 7 (.mk b i)))) (Z [91])=D (Z (flat (b_ 7 (.mk b i))++[91])):=dk (by simp only[List.length_cons,List.length_nil];omega);have aH:au P .add 9 U (Z (flat (b_ 7 (.mk b i))++[91])) (Z (flat (aY (.mk c cs))))=D (Z (flat (b_ 7 (.mk b i))++[91]++flat (aY (.mk c cs)))):=dk (by simp only[List.length_append,List.length_cons,List.length_nil];omega);have bu:au P .add 9 X (Z (flat (b_ 7 (.mk b i))++[91]++flat (aY (.mk c cs)))) (Z [93])=D (Z (flat (b_ 7 (.mk b i))++[91]++flat (aY (.mk c cs))++[93])):=dk (by simp only[List.length_append,List.length_cons,List.length_nil];omega)
   simp-implicitDefEqProofs(disch:=try exact ak)only[reduceAdd,reduceLeDiff,reduceIte,az,s,G,aq,aH,bu];exact a_.2 ⟨by rw[oX,dw,di,dw,di,ds];simp,((u.trans o).trans B).trans ad⟩
  | @call d m x p l y q w=>
   have:=fP q;rw[c9]at hw hlen;simp only at hw hlen;rw[oV,oN,dG,dj]at hlen;have a4:=tR ks;have aN:(flat (en (cD ks))).length<=1000000000:=ae;have v:=Pe ai ao (λe he=>⟨ar e he,_,w e he⟩) (λe he=>by
    obtain⟨c,cs⟩:=e;exact(V he (w _ he)).1) ae aN
   simp-implicitDefEqProofs(disch:=try exact ak)only[reduceAdd,reduceLeDiff,reduceIte,az,Int.reduceBEq,s];refine aW v ?_;rintro _ F ⟨rfl,o⟩;refine⟨o.1,?_⟩;have G:=o.get s;have aq:au P .add 9 X (Z x) (Z [40])=D (Z (x++[40])):=dk (by simp only[List.length_cons,List.length_nil];omega);have aH:au P .add 9 U (Z (x++[40])) (Z (flat (en (cD ks))))=D (Z (x++[40]++flat (en (cD ks)))):=dk (by simp only[List.length_append,List.length_cons,List.length_nil];omega);have bu:au P .add 9 X (Z (x++[40]++flat (en (cD ks)))) (Z [41])=D (Z (x++[40]++flat (en (cD ks))++[41])):=dk (by simp only[List.length_append,List.length_cons,List.length_nil];omega)
   simp-implicitDefEqProofs(disch:=try exact ak)only[reduceAdd,reduceLeDiff,reduceIte,az,s,G,aq,aH,bu];exact a_.2 ⟨by rw[oV,kz,di,dw,di,ds];simp,u.trans o⟩
  | @new d m x p y q=>
   have a5:=fP q;simp-implicitDefEqProofs(disch:=try exact ak)only[reduceAdd,reduceLeDiff,reduceIte,az,Int.reduceBEq,s];refine aW (type20 (x:=x) (z:=0) (Int.le_refl 0) ae ae) ?_;rintro _ F ⟨rfl,o⟩;refine⟨o.1,?_⟩;have aQ:flat (cn x 0)=x:=by rw[yF];simp[iJ]
   rw[aQ];have aq:au P .add 9 X (Z [110,101,119,32]) (Z x)=D (Z ([110,101,119,32]++x)):=dk (by simp only[List.length_cons,List.length_nil];omega);simp only[aq,eC];exact a_.2 ⟨by rw[dZ];show _=aa.str (flat [wd [110,101,119],b9,cC x]);rw[iA,e3,kz,ds];simp,u.trans o⟩
  | @make d m x z p e y q w=>
   obtain⟨ct,i⟩:=e;obtain⟨rfl,A⟩:=L _ _ _ rfl;rw[oZ,jm,fw,dG,dj,dG,dG,dj]at hlen;simp-implicitDefEqProofs(disch:=try exact ak)only[reduceAdd,reduceLeDiff,reduceIte,az,Int.reduceBEq,s];refine aW (type20 q.1 q.2.1 (by have:=ib q;omega)) ?_;rintro _ F ⟨rfl,o⟩;refine⟨o.1,?_⟩;have G:=o.get s;have g4:=o.get g3;have v:=(V (by simp) w).2 F E (A.aR o) (u.trans o);simp only[bU.cells]at v;simp-implicitDefEqProofs(disch:=try exact ak)only[reduceAdd,reduceLeDiff,reduceIte,az,g4];refine aW v ?_;rintro _ al ⟨rfl,B⟩;refine⟨B.1,?_⟩;have aq:au P .add 9 X (Z [110,101,119,32,91]) (Z (flat (cn x z)))=D (Z ([110,101,119,32,91]++flat (cn x z))):=dk (by simp only[List.length_cons,List.length_nil];omega)
   have aH:au P .add 9 X (Z ([110,101,119,32,91]++flat (cn x z))) (Z [93,40])=D (Z ([110,101,119,32,91]++flat (cn x z)++[93,40])):=dk (by simp only[List.length_append,List.length_cons,List.length_nil];omega);have bu:au P .add 9 U (Z ([110,101,119,32,91]++flat (cn x z)++[93,40])) (Z (flat (aY (.mk b i))))=D (Z ([110,101,119,32,91]++flat (cn x z)++[93,40]++flat (aY (.mk b i)))):=dk (by simp only[List.length_append,List.length_cons,List.length_nil];omega);have cq:au P .add 9 X (Z ([110,101,119,32,91]++flat (cn x z)++[93,40]++flat (aY (.mk b i)))) (Z [41])=D (Z ([110,101,119,32,91]++flat (cn x z)++[93,40]++flat (aY (.mk b i))++[41])):=dk (by simp only[List.length_append,List.length_cons,List.length_nil];omega)
   have S:=ux (a:=b) A.beq;simp only[bU.cells]at S;rw[aq,eC,aH,eC,bu,eC,cq,eC];simp-implicitDefEqProofs(disch:=try exact ak)only[reduceAdd,reduceLeDiff,reduceIte,az,g3,g4,S];exact a_.2 ⟨by rw[oZ,iA,e3,di,dw,di,di,dw,di,ds];simp,(u.trans o).trans B⟩
  | @len d m p e y q=>
   obtain⟨ct,i⟩:=e;obtain⟨rfl,A⟩:=L _ _ _ rfl;rw[oY,jm,dG,dj]at hlen;have v:=(V (by simp) q).2 T E A u;simp only[bU.cells]at v;simp-implicitDefEqProofs(disch:=try exact ak)only[reduceAdd,reduceLeDiff,reduceIte,az,Int.reduceBEq,s,g3];refine aW v ?_;rintro _ F ⟨rfl,o⟩;refine⟨o.1,?_⟩;have aq:au P .add 9 X (Z [108,101,110,40]) (Z (flat (aY (.mk b i))))=D (Z ([108,101,110,40]++flat (aY (.mk b i)))):=dk (by simp only[List.length_cons,List.length_nil];omega);have aH:au P .add 9 X (Z ([108,101,110,40]++flat (aY (.mk b i)))) (Z [41])=D (Z ([108,101,110,40]++flat (aY (.mk b i))++[41])):=dk (by simp only[List.length_append,List.length_cons,List.length_nil];omega)
   rw[aq,eC,aH,eC];exact a_.2 ⟨by rw[oY,iA,di,dw,di,ds];simp,u.trans o⟩
  | @read d m p y=>
   simp-implicitDefEqProofs(disch:=try exact ak)only[reduceAdd,reduceLeDiff,reduceIte,az,Int.reduceBEq,s];exact a_.2 ⟨by rw[dZ];rfl,u⟩
  | @sign d m k p e y q w=>
   obtain⟨ct,i⟩:=e;obtain⟨rfl,A⟩:=L _ _ _ rfl;rw[mv q,dG]at hlen;have v:=gA 6 rfl (by simp) w _ E A u;simp only[bU.cells]at v;have S:=ux (a:=b) A.beq;simp only[bU.cells]at S;rcases q with rfl|rfl
   ·simp-implicitDefEqProofs(disch:=try exact ak)only[reduceAdd,reduceLeDiff,reduceIte,az,Int.reduceBEq,s,nL];refine aW (I7 (.inl rfl)) ?_;rintro _ _ ⟨rfl,rfl⟩;refine⟨bo _,?_⟩;simp-implicitDefEqProofs(disch:=try exact ak)only[reduceAdd,reduceLeDiff,reduceIte,az,g3];refine aW v ?_;rintro _ F ⟨rfl,o⟩;refine⟨o.1,?_⟩;have aq:au P .add 9 U (Z (bif (12:Int)==12 then[45]else[33])) (Z (flat (b_ 6 (.mk b i))))=D (Z ([45]++flat (b_ 6 (.mk b i)))):=dk (t:=9) (a:=[45]) (by simp only[List.length_cons,List.length_nil];omega);simp-implicitDefEqProofs(disch:=try exact ak)only[reduceAdd,reduceLeDiff,reduceIte,az,aq,g3,S]
    exact a_.2 ⟨by rw[mv (.inl rfl),di];rfl,u.trans o⟩
   ·simp-implicitDefEqProofs(disch:=try exact ak)only[reduceAdd,reduceLeDiff,reduceIte,az,Int.reduceBEq,s,nL];refine aW (I7 (.inr rfl)) ?_;rintro _ _ ⟨rfl,rfl⟩;refine⟨bo _,?_⟩;simp-implicitDefEqProofs(disch:=try exact ak)only[reduceAdd,reduceLeDiff,reduceIte,az,g3];refine aW v ?_;rintro _ F ⟨rfl,o⟩;refine⟨o.1,?_⟩;have aq:au P .add 9 U (Z (bif (13:Int)==12 then[45]else[33])) (Z (flat (b_ 6 (.mk b i))))=D (Z ([33]++flat (b_ 6 (.mk b i)))):=dk (t:=9) (a:=[33]) (by simp only[List.length_cons,List.length_nil];omega);simp-implicitDefEqProofs(disch:=try exact ak)only[reduceAdd,reduceLeDiff,reduceIte,az,aq,g3,S]
    exact a_.2 ⟨by rw[mv (.inr rfl),di];rfl,u.trans o⟩
  | @bin d m k p e f y q w aK aL=>
   obtain⟨ct,i⟩:=e;obtain⟨c,cs⟩:=f;obtain⟨rfl,A⟩:=L _ _ _ rfl;obtain⟨l',aV,aF,aZ,aJ,kw,rfl,am,aw,ab⟩:=ai.kW (n:=2) rfl (j:=1) rfl;rw[oU q,dj,fw,dG,fw]at hlen;have a3:=zj q w;have cP:∀m:Int,m<14->(k==m)=false:=λm h=>by simp;omega
   have a0:IntKind.i64.wrap (((cG k:Nat):Int)+1)=((cG k+1:Nat):Int):=by have:=zs k;rw[wrap_i64 ae ae];omega
   have v:=gA (cG k) rfl (by simp) aK _ E A u;simp only[bU.cells]at v;simp-implicitDefEqProofs(disch:=try exact ak)only[reduceAdd,reduceLeDiff,reduceIte,az,s,cP 1 ae,cP 2 ae,cP 3 ae,cP 4 ae,cP 5 ae,cP 6 ae,cP 7 ae,cP 8 ae,cP 9 ae,cP 10 ae,cP 11 ae,cP 12 ae,cP 13 ae,nL];unfold pd;simp-implicitDefEqProofs(disch:=try exact ak)only[reduceAdd,reduceLeDiff,reduceIte,az,s];refine aW (Ue q w) ?_;rintro _ _ ⟨rfl,rfl⟩;refine⟨bo _,?_⟩;have a2:(fc k != [])=true:=by
    have M:k=14\/k=15\/k=16\/k=17\/k=18\/k=19\/k=20\/k=21\/k=22\/k=23\/k=24:=ae;rcases M with rfl|rfl|rfl|rfl|rfl|rfl|rfl|rfl|rfl|rfl|rfl<;>rfl
   have aO:au P .neq 9 X (Z (fc k)) (Z [])=D (.bool X):=by
    have M:k=14\/k=15\/k=16\/k=17\/k=18\/k=19\/k=20\/k=21\/k=22\/k=23\/k=24:=ae;rcases M with rfl|rfl|rfl|rfl|rfl|rfl|rfl|rfl|rfl|rfl|rfl<;>rfl
   simp-implicitDefEqProofs(disch:=try exact ak)only[bg,bG,aO,reduceAdd,reduceLeDiff,reduceIte,az,s];refine aW GJ ?_;rintro _ _ ⟨rfl,rfl⟩;refine⟨bo _,?_⟩;simp-implicitDefEqProofs(disch:=try exact ak)only[reduceAdd,reduceLeDiff,reduceIte,az,g3];refine aW v ?_;rintro _ F ⟨rfl,o⟩;refine⟨o.1,?_⟩;have G:=o.get s;simp-implicitDefEqProofs(disch:=try exact ak)only[reduceAdd,reduceLeDiff,reduceIte,az,G];refine aW (vJ (j:=1) rfl ae ab.eb (o.get am) aw) ?_;rintro _ al ⟨rfl,B⟩;refine⟨B.1,?_⟩;simp-implicitDefEqProofs(disch:=try exact ak)only[reduceAdd,reduceLeDiff,reduceIte,az,a0];refine aW (gA (cG k+1) rfl (by simp) aL _ kw (ab.aR (o.trans B)) ((u.trans o).trans B)) ?_
   rintro _ aD ⟨rfl,ad⟩;refine⟨ad.1,?_⟩;have aq:au P .add 9 X (Z (flat (b_ (cG k) (.mk b i)))) (Z [32])=D (Z (flat (b_ (cG k) (.mk b i))++[32])):=dk (by simp only[List.length_cons,List.length_nil];omega);have aH:au P .add 9 U (Z (flat (b_ (cG k) (.mk b i))++[32])) (Z (fc k))=D (Z (flat (b_ (cG k) (.mk b i))++[32]++fc k)):=dk (by simp only[List.length_append,List.length_cons,List.length_nil];omega);have bu:au P .add 9 X (Z (flat (b_ (cG k) (.mk b i))++[32]++fc k)) (Z [32])=D (Z (flat (b_ (cG k) (.mk b i))++[32]++fc k++[32])):=dk (by simp only[List.length_append,List.length_cons,List.length_nil];omega)
   have cq:au P .add 9 U (Z (flat (b_ (cG k) (.mk b i))++[32]++fc k++[32])) (Z (flat (b_ (cG k+1) (.mk c cs))))=D (Z (flat (b_ (cG k) (.mk b i))++[32]++fc k++[32]++flat (b_ (cG k+1) (.mk c cs)))):=dk (by simp only[List.length_append,List.length_cons,List.length_nil];omega);rw[aq,eC,aH,eC,bu,eC,cq,eC];simp-implicitDefEqProofs(disch:=try exact ak)only[reduceAdd,reduceLeDiff,reduceIte,az,s,G];exact a_.2 ⟨by rw[oU q,dw,e3,di,e3];simp,((u.trans o).trans B).trans ad⟩
section
set_option maxRecDepth 100000
noncomputable section
def xa(G:aD)(ag av:aa)(H:af):O:=aO H (G 80 [ag] H) λn a=>j (cp ag) λe=>j (aJ P 79 e 1) λh=>j (ao P a 77 h) λi=>aO a (df P a [77,9] i av) λk c=>j (cp ag) λl=>j (aJ P 79 l 1) λbR=>bm c (ba P c 77 bR k) λd=>bg P .len [9] [av] d λm=>D (.tuple [m,aa.nilIface],d)
def RC(N:Nat){ag av:aa}{H:af}{r:aa×af}(h:xa (aI P aB) ag av H=D r):aI P aB 57 [ag,av] H=D r:=cZ N (S:=λG=>xa G ag av H) Tryd.func57 (λ_=>by delta xa;kernel_rfl) h
def xb(G:aD)(ag av:aa)(H:af):O:=aO H (G 80 [ag] H) λbD a=>j (cp ag) λn=>j (aJ P 79 n 1) λh=>j (ao P a 77 h) λi=>ca a (cl P (a).next 77 1 [(0,av)]) λk c=>aO c (df P c [77,77] i k) λl d=>j (cp ag) λm=>j (aJ P 79 m 1) λbR=>bm d (ba P d 77 bR l) λe=>D (aa.nilIface,e)
def RD(N:Nat){ag av:aa}{H:af}{r:aa×af}(h:xb (aI P aB) ag av H=D r):aI P aB 58 [ag,av] H=D r:=cZ N (S:=λG=>xb G ag av H) Tryd.func58 (λ_=>by delta xb;kernel_rfl) h
end
end
section
set_option maxRecDepth 100000
noncomputable section
def sz(G:aD)(N:Nat)(ag:aa)(H:af):O:=j (cp ag) λc=>j (aJ P 81 c 0) λd=>aO H (G 58 [d,I .u8 10] H) λe a=>D (.tuple [],a)
def Sz(G:aD)(N:Nat):∀ad H,bC P G N (o (o (bI Tryd.f29))) (bs Tryd.f29) [] (bs Tryd.f29) ad H=sz G N (ad 0) H:=by
 refine bZ (aL _) λad H=> ?_
 delta sz;kernel_rfl
def uD(G:aD)(N:Nat)(d:aa->aa->aa->aa->af->O)(ag a:aa)(c bR:aa)(H:af):O:=j (au P .lss 3 U bR c) λh=>a7 (D h) (j (cF P 50 a bR) λi=>j (ao P H 9 i) λk=>j (cp ag) λl=>j (aJ P 81 l 0) λm=>aO H (G 57 [m,k] H) λo e=>j (au P .add 3 X bR (I J 1)) λn=>d ag a c n e) (sz G N ag H)
def pf(G:aD)(N:Nat):Nat->aa->aa->aa->aa->af->O
 |0,_,_,_,_,_=>C
 |n+1,ag,a,c,bR,H=>uD G N (pf G N n) ag a c bR H
def Sy(G:aD)(N:Nat)(c:aa->aa->aa->aa->af->O):∀ad H,bC P G N (bd (bd (o (bd (o (bI Tryd.f29)))))) (λad H=>c (ad 0) (ad 14) (ad 15) (ad 16) H) [(0,(λad H=>sz G N (ad 0) H))] (bs Tryd.f29) ad H=uD G N c (ad 0) (ad 14) (ad 15) (ad 16) H:=by
 refine bZ (aL _) λad H=> ?_
 delta uD;generalize sz G N=a;revert a;refine id ?_;intro a;kernel_rfl
def wX(G:aD)(N:Nat)(ag av d:aa)(H:af):O:=aO H (G 54 [Z [32,32],av] H) λh a=>j (cp ag) λk=>j (aJ P 81 k 0) λe=>aO a (G 57 [e,h] a) λl c=>bg P .len [50] [d] c λi=>pf G N N ag d i (I J 0) c
def Ri(N:Nat){ag av a:aa}{H:af}{r:aa×af}(h:wX (aI P aB) N ag av a H=D r):aI P aB 29 [ag,av,a] H=D r:=cZ N (S:=λG=>wX G N ag av a H) Tryd.func29 (λG=>eo ((aX ah ((aX ah (Sz G N) ((aX ah ((dx ah ((eP (k:=λm ad H=>pf G N m (ad 0) (ad 14) (ad 15) (ad 16) H) ah (λad H=>ah) (λm=>Sy G N (pf G N m)))))) (aL _))))) (aL _))) (by delta wX;generalize pf G N N=c;revert c;refine id ?_;intro c;kernel_rfl)) h
def sB(G:aD)(N:Nat)(k:aa->aa->aa->aa->aa->af->O)(ag av:aa)(h i c:aa)(H:af):O:=j (au P .lss 3 U c i) λm=>a7 (D m) (j (cF P 71 h c) λn=>j (ao P H 112 n) λo=>cX H [I J 0,Z [],Z [],I J 0,aa.aA,aa.aA,aa.aA,I J 0,I J 0] λe d=>bm d (ba P d 112 e o) λa=>j (ao P a 112 e) λbR=>aO a (G 60 [ag,av,bR] a) λq l=>j (au P .add 3 X c (I J 1)) λp=>k ag av h i p l) (D (.tuple [],H))
def nP(G:aD)(N:Nat):Nat->aa->aa->aa->aa->aa->af->O
 |0,_,_,_,_,_,_=>C
 |n+1,ag,av,c,d,a,H=>sB G N (nP G N n) ag av c d a H
def SD(G:aD)(N:Nat)(a:aa->aa->aa->aa->aa->af->O):∀ad H,bC P G N (bd (bd (o (bI Tryd.f31)))) (λad H=>a (ad 0) (ad 1) (ad 8) (ad 9) (ad 10) H) [(0,(bs Tryd.f31))] (bs Tryd.f31) ad H=sB G N a (ad 0) (ad 1) (ad 8) (ad 9) (ad 10) H:=by
 refine bZ (aL _) λad H=> ?_
 delta sB;kernel_rfl
def wZ(G:aD)(N:Nat)(ag av a:aa)(H:af):O:=bg P .len [71] [a] H λc=>nP G N N ag av a c (I J 0) H
def Rk(N:Nat){ag av a:aa}{H:af}{r:aa×af}(h:wZ (aI P aB) N ag av a H=D r):aI P aB 31 [ag,av,a] H=D r:=cZ N (S:=λG=>wZ G N ag av a H) Tryd.func31 (λG=>eo ((aX ah ((dx ah ((eP (k:=λm ad H=>nP G N m (ad 0) (ad 1) (ad 8) (ad 9) (ad 10) H) ah (λad H=>ah) (λm=>SD G N (nP G N m)))))) (aL _))) (by delta wZ;generalize nP G N N=c;revert c;refine id ?_;intro c;kernel_rfl)) h
def qV(G:aD)(ag av:aa)(H:af):O:=ca H (D (.aG (H).next 0 1 1 (D 1),.row U 1 [[Z [125]]])) λd a=>aO a (G 29 [ag,av,d] a) λe c=>D (.tuple [],c)
def Ti(G:aD)(N:Nat):∀ad H,bC P G N (o (o (o (bd (o (o (o (o (o (o (o (o (o (bd (o (o (o (bI Tryd.f60)))))))))))))))))) (bs Tryd.f60) [(0,(bs Tryd.f60))] (bs Tryd.f60) ad H=qV G (ad 0) (ad 1) H:=by
 refine bZ (aL _) λad H=> ?_
 delta qV;kernel_rfl
def xc(G:aD)(ag av ah:aa)(H:af):O:=ca H (dR (H).next ah) λe n=>j (aJ P 112 e 3) λaR=>j (ao P n 41 aR) λaV=>aO n (G 41 [aV,I J 0] n) λA s=>aO s (G 16 [A] s) λk o=>j (aJ P 112 e 3) λp=>j (ao P o 41 p) λq=>aO o (G 41 [q,I J 1] o) λab y=>aO y (G 16 [ab] y) λad c=>bif ((bp (ao P n 41 p) q&&(bp (ao P s 41 p) q&&(bp (ao P o 41 p) q&&X)))&&X)then(j (aJ P 112 e 0) λbR=>j (ao P c 3 bR) λi=>j (au P .eql 3 X i (I J 1)) λae=>a7 (D ae) (j (aJ P 112 e 2) λai=>j (ao P c 40 ai) λaj=>aO c (G 20 [aj] c) λak a=>j (aJ P 112 e 1) λu=>j (ao P a 9 u) λv=>ca a (cl P (a).next 50 5 [(0,(Z [118,97,114,32])),(1,v),(2,(Z [58,32])),(3,ak),(4,(Z [59]))]) λal d=>aO d (G 29 [ag,av,al] d) λa6 h=>bif ((bp (ao P c 9 u) v&&(bp (ao P a 9 u) v&&X))&&X)then(D (.tuple [],h))else C) (j (au P .eql 3 X i (I J 2)) λam=>a7 (D am) (j (aJ P 112 e 2) λan=>j (ao P c 40 an) λap=>aO c (G 20 [ap] c) λaq a=>j (aJ P 112 e 1) λw=>j (ao P a 9 w) λx=>ca a (cl P (a).next 50 7 [(0,(Z [108,101,116,32])),(1,x),(2,(Z [58,32])),(3,aq),(4,(Z [32,61,32])),(5,k),(6,(Z [59]))]) λar d=>aO d (G 29 [ag,av,ar] d) λa8 h=>bif ((bp (ao P c 9 w) x&&(bp (ao P a 9 w) x&&X))&&X)then(D (.tuple [],h))else C) (j (au P .eql 3 X i (I J 3)) λaw=>a7 (D aw) (j (aJ P 112 e 1) λax=>j (ao P c 9 ax) λay=>ca c (cl P (c).next 50 4 [(0,ay),(1,(Z [32,61,32])),(2,k),(3,(Z [59]))]) λaz a=>aO a (G 29 [ag,av,az] a) λa9 d=>D (.tuple [],d)) (j (au P .eql 3 X i (I J 4)) λaB=>a7 (D aB) (ca c (cl P (c).next 50 4 [(0,k),(1,(Z [32,61,32])),(2,ad),(3,(Z [59]))]) λaC a=>aO a (G 29 [ag,av,aC] a) λa_ d=>D (.tuple [],d)) (j (au P .eql 3 X i (I J 5)) λaE=>a7 (D aE) (ca c (cl P (c).next 50 3 [(0,(Z [105,102,32])),(1,k),(2,(Z [32,123]))]) λaF a=>aO a (G 29 [ag,av,aF] a) λba d=>j (au P .add 3 X av (I J 1)) λaH=>j (aJ P 112 e 4) λaI=>j (ao P d 71 aI) λaK=>aO d (G 31 [ag,aH,aK] d) λbb h=>j (aJ P 112 e 5) λaL=>j (ao P h 71 aL) λaM=>bg P .len [71] [aM] h λaN=>j (au P .gtr 3 X aN (I J 0)) λaP=>a7 (D aP) (ca h (D (.aG (h).next 0 1 1 (D 1),.row U 1 [[Z [125,32,101,108,115,101,32,123]]])) λaQ m=>aO m (G 29 [ag,av,aQ] m) λbc l=>j (au P .add 3 X av (I J 1)) λaS=>j (aJ P 112 e 5) λaT=>j (ao P l 71 aT) λaU=>aO l (G 31 [ag,aS,aU] l) λbd z=>qV G ag av z) (qV G ag av h)) (j (au P .eql 3 X i (I J 6)) λaW=>a7 (D aW) (ca c (cl P (c).next 50 3 [(0,(Z [119,104,105,108,101,32])),(1,k),(2,(Z [32,123]))]) λaX a=>aO a (G 29 [ag,av,aX] a) λbe d=>j (au P .add 3 X av (I J 1)) λaY=>j (aJ P 112 e 4) λaZ=>j (ao P d 71 aZ) λB=>aO d (G 31 [ag,aY,B] d) λa0 h=>ca h (D (.aG (h).next 0 1 1 (D 1),.row U 1 [[Z [125]]])) λE m=>aO m (G 29 [ag,av,E] m) λa1 l=>D (.tuple [],l)) (j (au P .eql 3 X i (I J 7)) λF=>a7 (D F) (j (aJ P 112 e 3) λK=>j (ao P c 41 K) λL=>bg P .len [41] [L] c λM=>j (au P .eql 3 X M (I J 0)) λN=>a7 (D N) (ca c (D (.aG (c).next 0 1 1 (D 1),.row U 1 [[Z [114,101,116,117,114,110,59]]])) λQ a=>aO a (G 29 [ag,av,Q] a) λa2 d=>D (.tuple [],d)) (ca c (cl P (c).next 50 3 [(0,(Z [114,101,116,117,114,110,32])),(1,k),(2,(Z [59]))]) λR a=>aO a (G 29 [ag,av,R] a) λa3 d=>D (.tuple [],d))) (j (au P .eql 3 X i (I J 8)) λS=>a7 (D S) (ca c (cl P (c).next 50 3 [(0,(Z [112,114,105,110,116,32])),(1,k),(2,(Z [59]))]) λT a=>aO a (G 29 [ag,av,T] a) λa4 d=>D (.tuple [],d)) (j (au P .eql 3 X i (I J 9)) λV=>a7 (D V) (ca c (cl P (c).next 50 2 [(0,k),(1,(Z [59]))]) λW a=>aO a (G 29 [ag,av,W] a) λa5 d=>D (.tuple [],d)) (D (.tuple [],c)))))))))))else C
def RE(N:Nat){ag av a:aa}{H:af}{r:aa×af}(h:xc (aI P aB) ag av a H=D r):aI P aB 60 [ag,av,a] H=D r:=cZ N (S:=λG=>xc G ag av a H) Tryd.func60 (λG=>eo ((aX ah ((aX ah ((aX ah ((dx ah ((aX ah ((d_ ah (aL _) ((aX ah ((d_ ah (aL _) ((aX ah ((d_ ah (aL _) ((aX ah ((d_ ah (aL _) ((aX ah ((d_ ah ((aX ah ((aX ah ((aX ah (Ti G N) (aL _))) (aL _))) (aL _))) (aL _))) (aL _))))) (aL _))))) (aL _))))) (aL _))))) (aL _))))) (aL _))) (aL _))) (aL _))) (by delta xc;generalize qV G=c;revert c;refine id ?_;intro c;kernel_rfl)) h
