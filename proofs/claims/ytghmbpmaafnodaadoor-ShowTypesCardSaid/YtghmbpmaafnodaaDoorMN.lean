/-
  Texts of one proof, laid together: ShVa Va Vb Z12 Zb U1 U2 U3 U4 U5 Qa Vc Vd ShV ShVb.
-/
import Derived.Test.YtghmbpmaafnodaaDoorMM
set_option linter.unusedVariables false
set_option linter.unusedSimpArgs false
set_option linter.defProp false
open Option renaming some→D,none→Z
open Bool renaming true→X,false→U
open Go.b9.aa renaming int→I,str→Y
open Go.IntKind renaming i64→J
namespace Go.Proofs.YtghmbpmaafnodaaDoor
open Go.b9
open Nat (reduceAdd reduceLeDiff)
section
set_option maxRecDepth 100000
noncomputable section
def o1(G:ax)(ag au:aa)(H:ad):O:=cp H [I J 0,I J 0,Y [],Y [],I J 0,aa.ar,I J 0,I J 0,I J 0,I J 0,I J 0] λd a=>bd P .len [41] [ag] a λi=>j (an P .geq 3 U au i) λk=>aV (D k) (a8 a (aT P a 45 d (.agg [I J 0,I J 0,Y [],Y [],I J 0,aa.ar,I J 0,I J 0,I J 0,I J 0,I J 0])) λc=>j (al P c 45 d) λr=>D (r,c)) (j (cG P 41 ag au) λe=>j (al P a 45 e) λh=>a8 a (aT P a 45 d h) λc=>j (al P c 45 d) λr=>D (r,c))
def vT(N:Nat){ag au:aa}{H:ad}{r:aa×ad}(h:o1 (aA P aw) ag au H=D r):aA P aw 41 [ag,au] H=D r:=cQ N (S:=λG=>o1 G ag au H) Tryd.func41 (λ_=>by delta o1;kernel_rfl) h
def sF(G:ax)(ag au:aa)(H:ad):O:=bV H (dT (H).next ag) λe c=>j (aI P 45 e 0) λo=>j (al P c 3 o) λbn=>aG c (G 47 [bn] c) λp a=>j (an P .lss 3 U p au) λq=>aV (D q) (j (al P a 45 e) λh=>aG a (G 16 [h] a) λi d=>j (an P .add 9 X (Y [40]) i) λk=>j (an P .add 9 X k (Y [41])) λl=>D (l,d)) (j (al P a 45 e) λm=>aG a (G 16 [m] a) λn d=>D (n,d))
def Kn(N:Nat){ag au:aa}{H:ad}{r:aa×ad}(h:sF (aA P aw) ag au H=D r):aA P aw 44 [ag,au] H=D r:=cQ N (S:=λG=>sF G ag au H) Tryd.func44 (λ_=>by delta sF;kernel_rfl) h
def ns(G:ax)(N:Nat)(d:aa)(H:ad):O:=aG H (G 59 [d,Y [44,32]] H) λc a=>D (c,a)
def LC(G:ax)(N:Nat):∀ae H,bm P G N (o (o (o (bq Tryd.f45)))) (bh Tryd.f45) [] (bh Tryd.f45) ae H=ns G N (ae 3) H:=by
 refine bL (aH _) λae H=> ?_
 delta ns;kernel_rfl
def o2(G:ax)(N:Nat)(m:aa->aa->aa->aa->ad->O)(i bn:aa)(l c:aa)(H:ad):O:=j (an P .lss 3 U c l) λw=>aV (D w) (j (cG P 41 bn c) λo=>j (al P H 45 o) λp=>cp H [I J 0,I J 0,Y [],Y [],I J 0,aa.ar,I J 0,I J 0,I J 0,I J 0,I J 0] λk d=>a8 d (aT P d 45 k p) λa=>j (al P a 45 k) λq=>aG a (G 16 [q] a) λs e=>bV e (bU P (e).next 50 1 [(0,s)]) λu h=>aG h (cR P h [50,50] i u) λbH n=>j (an P .add 3 X c (I J 1)) λv=>m bH bn l v n) (ns G N i H)
def k6(G:ax)(N:Nat):Nat->aa->aa->aa->aa->ad->O
 |0,_,_,_,_,_=>Z
 |n+1,a,bn,c,d,H=>o2 G N (k6 G N n) a bn c d H
def LB(G:ax)(N:Nat)(c:aa->aa->aa->aa->ad->O):∀ae H,bm P G N (a1 (a1 (o (a1 (o (o (bq Tryd.f45))))))) (λae H=>c (ae 3) (ae 6) (ae 7) (ae 8) H) [(0,(λae H=>ns G N (ae 3) H))] (bh Tryd.f45) ae H=o2 G N c (ae 3) (ae 6) (ae 7) (ae 8) H:=by
 refine bL (aH _) λae H=> ?_
 delta o2;generalize ns G N=a;revert a;refine id ?_;intro a;kernel_rfl
def sG(G:ax)(N:Nat)(ag:aa)(H:ad):O:=bd P .len [41] [ag] H λa=>k6 G N N aa.ar ag a (I J 0) H
def Ko(N:Nat){ag:aa}{H:ad}{r:aa×ad}(h:sG (aA P aw) N ag H=D r):aA P aw 45 [ag] H=D r:=cQ N (S:=λG=>sG G N ag H) Tryd.func45 (λG=>dO ((aN ah ((aN ah ((aN ah (LC G N) ((aN ah ((db ah ((en (k:=λm ae H=>k6 G N m (ae 3) (ae 6) (ae 7) (ae 8) H) ah (λae H=>ah) (λm=>LB G N (k6 G N m)))))) (aH _))))) (aH _))) (aH _))) (by delta sG;generalize k6 G N N=a;revert a;refine id ?_;intro a;kernel_rfl)) h
def o3(G:ax)(H:ad):O:=some ((Y []),H)
def LD(G:ax)(N:Nat):∀ae H,bm P G N (o (o (bq Tryd.f46))) (bh Tryd.f46) [] (bh Tryd.f46) ae H=o3 G H:=by
 refine bL (aH _) λae H=> ?_
 delta o3;kernel_rfl
def nt(G:ax)(a o:aa)(H:ad):O:=aV (D o) (D ((Y [45]),H)) (j (an P .eql 3 X a (I J 13)) λp=>aV (D p) (D ((Y [33]),H)) (j (an P .eql 3 X a (I J 14)) λc=>aV (D c) (D ((Y [43]),H)) (j (an P .eql 3 X a (I J 16)) λd=>aV (D d) (D ((Y [42]),H)) (j (an P .eql 3 X a (I J 17)) λe=>aV (D e) (D ((Y [47]),H)) (j (an P .eql 3 X a (I J 18)) λbH=>aV (D bH) (D ((Y [37]),H)) (j (an P .eql 3 X a (I J 19)) λh=>aV (D h) (D ((Y [60]),H)) (j (an P .eql 3 X a (I J 20)) λi=>aV (D i) (D ((Y [60,61]),H)) (j (an P .eql 3 X a (I J 21)) λk=>aV (D k) (D ((Y [61,61]),H)) (j (an P .eql 3 X a (I J 22)) λl=>aV (D l) (D ((Y [33,61]),H)) (j (an P .eql 3 X a (I J 23)) λm=>aV (D m) (D ((Y [38,38]),H)) (j (an P .eql 3 X a (I J 24)) λn=>aV (D n) (D ((Y [124,124]),H)) (o3 G H))))))))))))
def LF(G:ax)(N:Nat):∀ae H,bm P G N (o (a1 (o (a1 (o (bq Tryd.f46)))))) (λae H=>o3 G H) [(0,(λae H=>o3 G H))] (bh Tryd.f46) ae H=nt G (ae 3) (ae 4) H:=by
 refine bL (aH _) λae H=> ?_
 delta nt;generalize o3 G=a;revert a;refine id ?_;intro a;kernel_rfl
def qS(G:ax)(ag:aa)(H:ad):O:=j (an P .eql 3 X ag (I J 12)) λa=>aV (D a) (nt G ag a H) (j (an P .eql 3 X ag (I J 15)) λbn=>nt G ag bn H)
def vU(N:Nat){ag:aa}{H:ad}{r:aa×ad}(h:qS (aA P aw) ag H=D r):aA P aw 46 [ag] H=D r:=cQ N (S:=λG=>qS G ag H) Tryd.func46 (λG=>dO ((aN ah ((aN ah (LD G N) ((aN ah ((db ah ((aN ah (LF G N) (aH _))))) (aH _))))) (aH _))) (by delta qS;generalize nt G=a;revert a;refine id ?_;intro a;kernel_rfl)) h
def iQ(G:ax)(H:ad):O:=some ((I J 7),H)
def LG(G:ax)(N:Nat):∀ae H,bm P G N (o (o (bq Tryd.f47))) (bh Tryd.f47) [] (bh Tryd.f47) ae H=iQ G H:=by
 refine bL (aH _) λae H=> ?_
 delta iQ;kernel_rfl
def o5(G:ax)(a:aa)(H:ad):O:=aV (D a) (D ((I J 6),H)) (iQ G H)
def LK(G:ax)(N:Nat):∀ae H,bm P G N (o (o (o (o (o (o (o (o (o (o (o (a1 (o (a1 (o (bq Tryd.f47)))))))))))))))) (λae H=>iQ G H) [(0,(λae H=>iQ G H))] (bh Tryd.f47) ae H=o5 G (ae 20) H:=by
 refine bL (aH _) λae H=> ?_
 delta o5;generalize iQ G=a;revert a;refine id ?_;intro a;kernel_rfl
def nu(G:ax)(c bH:aa)(H:ad):O:=aV (D bH) (D ((I J 5),H)) (j (an P .eql 3 X c (I J 12)) λa=>aV (D a) (o5 G a H) (j (an P .eql 3 X c (I J 13)) λd=>o5 G d H))
def LJ(G:ax)(N:Nat):∀ae H,bm P G N (o (o (o (o (o (o (o (o (o (a1 (o (a1 (o (bq Tryd.f47)))))))))))))) (λae H=>iQ G H) [(0,(λae H=>iQ G H))] (bh Tryd.f47) ae H=nu G (ae 3) (ae 16) H:=by
 refine bL ((dt ah (aH _) ((aN ah (LK G N) (aH _))))) λae H=> ?_
 delta nu;generalize o5 G=a;revert a;refine id ?_;intro a;kernel_rfl
def o4(G:ax)(a e:aa)(H:ad):O:=aV (D e) (D ((I J 4),H)) (j (an P .eql 3 X a (I J 16)) λc=>aV (D c) (nu G a c H) (j (an P .eql 3 X a (I J 17)) λd=>aV (D d) (nu G a d H) (j (an P .eql 3 X a (I J 18)) λh=>nu G a h H)))
def LI(G:ax)(N:Nat):∀ae H,bm P G N (o (o (o (o (o (o (o (a1 (o (a1 (o (bq Tryd.f47)))))))))))) (λae H=>iQ G H) [(0,(λae H=>iQ G H))] (bh Tryd.f47) ae H=o4 G (ae 3) (ae 13) H:=by
 refine bL ((dt ah (aH _) ((aN ah (LJ G N) (aH _))))) λae H=> ?_
 delta o4;generalize nu G=a;revert a;refine id ?_;intro a;kernel_rfl
def l0(G:ax)(a e:aa)(H:ad):O:=aV (D e) (D ((I J 3),H)) (j (an P .eql 3 X a (I J 14)) λc=>aV (D c) (o4 G a c H) (j (an P .eql 3 X a (I J 15)) λd=>o4 G a d H))
def LH(G:ax)(N:Nat):∀ae H,bm P G N (o (o (o (o (o (a1 (o (a1 (o (bq Tryd.f47)))))))))) (λae H=>iQ G H) [(0,(λae H=>iQ G H))] (bh Tryd.f47) ae H=l0 G (ae 3) (ae 8) H:=by
 refine bL ((dt ah (aH _) ((aN ah (LI G N) (aH _))))) λae H=> ?_
 delta l0;generalize o4 G=a;revert a;refine id ?_;intro a;kernel_rfl
def sH(G:ax)(ag:aa)(H:ad):O:=j (an P .eql 3 X ag (I J 24)) λh=>aV (D h) (D ((I J 1),H)) (j (an P .eql 3 X ag (I J 23)) λi=>aV (D i) (D ((I J 2),H)) (j (an P .eql 3 X ag (I J 19)) λd=>aV (D d) (l0 G ag d H) (j (an P .eql 3 X ag (I J 20)) λa=>aV (D a) (l0 G ag a H) (j (an P .eql 3 X ag (I J 21)) λc=>aV (D c) (l0 G ag c H) (j (an P .eql 3 X ag (I J 22)) λe=>l0 G ag e H)))))
def Kp(N:Nat){ag:aa}{H:ad}{r:aa×ad}(h:sH (aA P aw) ag H=D r):aA P aw 47 [ag] H=D r:=cQ N (S:=λG=>sH G ag H) Tryd.func47 (λG=>dO ((aN ah ((aN ah (LG G N) ((aN ah ((db ah ((aN ah ((dt ah (aH _) ((aN ah ((dt ah (aH _) ((aN ah (LH G N) (aH _))))) (aH _))))) (aH _))))) (aH _))))) (aH _))) (by delta sH;generalize l0 G=a;revert a;refine id ?_;intro a;kernel_rfl)) h
def su(G:ax)(ag:aa)(H:ad):O:=bV H (dT (H).next ag) λau a=>j (aI P 40 au 1) λn=>j (al P a 3 n) λo=>bd P .max [3,3] [o,I J 0] a λbn=>bd P .min [3,3] [bn,I J 3] a λi=>aG a (G 54 [Y [91],i] a) λp e=>aG e (G 54 [Y [93],i] e) λl h=>j (aI P 40 au 0) λc=>j (al P h 9 c) λd=>j (an P .add 9 U p d) λk=>j (an P .add 9 U k l) λm=>bif ((bg (al P a 9 c) d&&(bg (al P e 9 c) d&&bg (al P h 9 c) d))&&X)then(D (m,h))else Z
def J8(N:Nat){ag:aa}{H:ad}{r:aa×ad}(h:su (aA P aw) ag H=D r):aA P aw 20 [ag] H=D r:=cQ N (S:=λG=>su G ag H) Tryd.func20 (λ_=>by delta su;kernel_rfl) h
def lV(G:ax)(au A:aa)(H:ad):O:=j (aI P 45 au 0) λB=>j (al P H 3 B) λE=>aG H (G 46 [E] H) λl a=>j (an P .neq 9 X l (Y [])) λF=>aV (D F) (j (aI P 45 au 0) λn=>j (al P a 3 n) λo=>aG a (G 47 [o] a) λk c=>j (al P c 45 A) λp=>aG c (G 44 [p,k] c) λq d=>j (aI P 45 au 4) λe=>j (al P d 41 e) λh=>aG d (G 41 [h,I J 1] d) λw i=>j (an P .add 3 X k (I J 1)) λx=>aG i (G 44 [w,x] i) λy m=>j (an P .add 9 X q (Y [32])) λs=>j (an P .add 9 U s l) λu=>j (an P .add 9 X u (Y [32])) λv=>j (an P .add 9 U v y) λz=>bif ((bg (al P c 41 e) h&&(bg (al P d 41 e) h&&X))&&X)then(D (z,m))else Z) (D ((Y []),a))
def Lb(G:ax)(N:Nat):∀ae H,bm P G N (o (o (o (bq Tryd.f16)))) (bh Tryd.f16) [] (bh Tryd.f16) ae H=lV G (ae 1) (ae 3) H:=by
 refine bL (aH _) λae H=> ?_
 delta lV;kernel_rfl
def k0(G:ax)(au c h:aa)(H:ad):O:=aV (D h) (j (aI P 45 au 0) λi=>j (al P H 3 i) λk=>aG H (G 46 [k] H) λl a=>j (al P a 45 c) λd=>aG a (G 44 [d,I J 6] a) λm e=>j (an P .add 9 U l m) λn=>bif ((bg (al P H 45 c) d&&(bg (al P a 45 c) d&&X))&&X)then(D (n,e))else Z) (lV G au c H)
def Lc(G:ax)(N:Nat):∀ae H,bm P G N (o (o (o (o (o (o (o (o (o (o (o (o (o (o (o (o (o (o (o (o (o (o (o (a1 (o (a1 (o (o (bq Tryd.f16))))))))))))))))))))))))))))) (λae H=>lV G (ae 1) (ae 3) H) [(0,(λae H=>lV G (ae 1) (ae 3) H))] (bh Tryd.f16) ae H=k0 G (ae 1) (ae 3) (ae 86) H:=by
 refine bL (aH _) λae H=> ?_
 delta k0;generalize lV G=a;revert a;refine id ?_;intro a;kernel_rfl
def qO(G:ax)(ag:aa)(H:ad):O:=bV H (dT (H).next ag) λau i=>j (aI P 45 au 4) λbn=>j (al P i 41 bn) λaP=>aG i (G 41 [aP,I J 0] i) λa0 v=>cp v [I J 0,I J 0,Y [],Y [],I J 0,aa.ar,I J 0,I J 0,I J 0,I J 0,I J 0] λe s=>a8 s (aT P s 45 e a0) λa=>j (aI P 45 au 0) λa7=>j (al P a 3 a7) λd=>j (an P .eql 3 X d (I J 1)) λx=>aV (D x) (j (aI P 45 au 1) λy=>j (al P a 3 y) λz=>aG a (G 42 [z] a) λA c=>D (A,c)) (j (an P .eql 3 X d (I J 2)) λB=>aV (D B) (j (aI P 45 au 1) λE=>j (al P a 3 E) λF=>j (an P .neq 3 X F (I J 0)) λK=>aG a (G 43 [K] a) λL c=>D (L,c)) (j (an P .eql 3 X d (I J 3)) λM=>aV (D M) (j (aI P 45 au 3) λN=>j (al P a 40 N) λQ=>aG a (G 20 [Q] a) λR c=>j (an P .add 9 X (Y [110,117,108,108,32]) R) λS=>D (S,c)) (j (an P .eql 3 X d (I J 4)) λT=>aV (D T) (j (aI P 45 au 2) λV=>j (al P a 9 V) λW=>D (W,a)) (j (an P .eql 3 X d (I J 5)) λab=>aV (D ab) (j (al P a 45 e) λae=>aG a (G 44 [ae,I J 7] a) λaf c=>j (an P .add 9 X af (Y [46])) λah=>j (aI P 45 au 2) λk=>j (al P c 9 k) λl=>j (an P .add 9 U ah l) λai=>bif ((bg (al P a 9 k) l&&bg (al P c 9 k) l)&&X)then(D (ai,c))else Z) (j (an P .eql 3 X d (I J 6)) λaj=>aV (D aj) (j (al P a 45 e) λak=>aG a (G 44 [ak,I J 7] a) λam c=>j (aI P 45 au 4) λm=>j (al P c 41 m) λn=>aG c (G 41 [n,I J 1] c) λap h=>aG h (G 16 [ap] h) λaq w=>j (an P .add 9 X am (Y [91])) λao=>j (an P .add 9 U ao aq) λav=>j (an P .add 9 X av (Y [93])) λaw=>bif ((bg (al P a 41 m) n&&(bg (al P c 41 m) n&&X))&&X)then(D (aw,w))else Z) (j (an P .eql 3 X d (I J 7)) λaz=>aV (D az) (j (aI P 45 au 4) λaB=>j (al P a 41 aB) λaC=>aG a (G 45 [aC] a) λaD c=>j (aI P 45 au 2) λo=>j (al P c 9 o) λp=>j (an P .add 9 X p (Y [40])) λaA=>j (an P .add 9 U aA aD) λaE=>j (an P .add 9 X aE (Y [41])) λaF=>bif ((bg (al P a 9 o) p&&bg (al P c 9 o) p)&&X)then(D (aF,c))else Z) (j (an P .eql 3 X d (I J 8)) λaH=>aV (D aH) (j (aI P 45 au 3) λaJ=>j (al P a 40 aJ) λaK=>aG a (G 20 [aK] a) λaL c=>j (an P .add 9 X (Y [110,101,119,32]) aL) λaM=>D (aM,c)) (j (an P .eql 3 X d (I J 9)) λaN=>aV (D aN) (j (aI P 45 au 3) λaO=>j (al P a 40 aO) λaQ=>aG a (G 20 [aQ] a) λaR c=>j (al P c 45 e) λq=>aG c (G 16 [q] c) λaW h=>j (an P .add 9 X (Y [110,101,119,32,91]) aR) λaS=>j (an P .add 9 X aS (Y [93,40])) λaU=>j (an P .add 9 U aU aW) λaX=>j (an P .add 9 X aX (Y [41])) λaY=>bif ((bg (al P a 45 e) q&&(bg (al P c 45 e) q&&X))&&X)then(D (aY,h))else Z) (j (an P .eql 3 X d (I J 10)) λaZ=>aV (D aZ) (j (al P a 45 e) λa1=>aG a (G 16 [a1] a) λa2 c=>j (an P .add 9 X (Y [108,101,110,40]) a2) λa3=>j (an P .add 9 X a3 (Y [41])) λa4=>D (a4,c)) (j (an P .eql 3 X d (I J 11)) λa5=>aV (D a5) (D ((Y [114,101,97,100,40,41]),a)) (j (an P .eql 3 X d (I J 12)) λu=>aV (D u) (k0 G au e u a) (j (an P .eql 3 X d (I J 13)) λa6=>k0 G au e a6 a))))))))))))
def Ds(N:Nat){ag:aa}{H:ad}{r:aa×ad}(h:qO (aA P aw) ag H=D r):aA P aw 16 [ag] H=D r:=cQ N (S:=λG=>qO G ag H) Tryd.func16 (λG=>dO ((aN ah ((aN ah ((aN ah (Lb G N) ((aN ah ((db ah ((aN ah ((dt ah (aH _) ((aN ah ((dt ah (aH _) ((aN ah ((dt ah (aH _) ((aN ah ((dt ah (aH _) ((aN ah ((dt ah (aH _) ((aN ah ((dt ah (aH _) ((aN ah ((dt ah (aH _) ((aN ah ((dt ah (aH _) ((aN ah ((dt ah (aH _) ((aN ah ((dt ah (aH _) ((aN ah ((dt ah (aH _) ((aN ah (Lc G N) (aH _))))) (aH _))))) (aH _))))) (aH _))))) (aH _))))) (aH _))))) (aH _))))) (aH _))))) (aH _))))) (aH _))))) (aH _))))) (aH _))))) (aH _))))) (aH _))) (aH _))) (by delta qO;generalize k0 G=a;revert a;refine id ?_;intro a;kernel_rfl)) h
end
end
def B5{H:ad}{k:Int}:W (aA P aw 47 [I J k] H) λv H'=>v= I J (c4 k)/\H'=H:=by
 refine cA (λ_=>Kp 0) ?_;unfold sH l0 o4 nu o5 iQ;unfold c4;have i:∀m:Int,k=m->(k==m)=true:=λm h=>by simpa using h
 have cq:∀m:Int,k≠m->(k==m)=false:=λm h=>by simpa using h
 by_cases a:k=24
 ·simp-implicitDefEqProofs(disch:=try exact aj)only[bd,br,c7,i _ a];refine⟨_,_,rfl,?_,rfl⟩;rw[if_pos a];rfl
 by_cases c:k=23
 ·simp-implicitDefEqProofs(disch:=try exact aj)only[bd,br,c7,cq _ a,i _ c];refine⟨_,_,rfl,?_,rfl⟩;rw[if_neg a,if_pos c];rfl
 by_cases l:19<=k/\k<=22
 ·have:k=19\/k=20\/k=21\/k=22:=af;rcases this with rfl|rfl|rfl|rfl<;>exact⟨_,_,rfl,rfl,rfl⟩
 by_cases e:k=14\/k=15
 ·rcases e with rfl|rfl<;>exact⟨_,_,rfl,rfl,rfl⟩
 by_cases j:16<=k/\k<=18
 ·have:k=16\/k=17\/k=18:=af;rcases this with rfl|rfl|rfl<;>exact⟨_,_,rfl,rfl,rfl⟩
 by_cases d:k=12\/k=13
 ·rcases d with rfl|rfl<;>exact⟨_,_,rfl,rfl,rfl⟩
 ·simp-implicitDefEqProofs(disch:=try exact aj)only[bd,br,c7,cq 24 af,cq 23 af,cq 19 af,cq 20 af,cq 21 af,cq 22 af,cq 14 af,cq 15 af,cq 16 af,cq 17 af,cq 18 af,cq 12 af,cq 13 af];refine⟨_,_,rfl,?_,rfl⟩;rw[if_neg a,if_neg c,if_neg l,if_neg e,if_neg j,if_neg d];rfl
def MH{H:ad}{k:Int}(h:14<=k)(aX:k<=24):W (aA P aw 46 [I J k] H) λv H'=>v= Y (gC k)/\H'=H:=by
 refine cA (λ_=>vU 0) ?_;have a:k=14\/k=15\/k=16\/k=17\/k=18\/k=19\/k=20\/k=21\/k=22\/k=23\/k=24:=af;unfold qS nt;rcases a with rfl|rfl|rfl|rfl|rfl|rfl|rfl|rfl|rfl|rfl|rfl<;>exact⟨_,_,rfl,rfl,rfl⟩
def DK{H:ad}{k:Int}(h:k=12\/k=13):W (aA P aw 46 [I J k] H) λv H'=>v= Y (bif k==12 then[45]else[33])/\H'=H:=by
 refine cA (λ_=>vU 0) ?_;unfold qS nt;rcases h with rfl|rfl<;>exact⟨_,_,rfl,rfl,rfl⟩
def Da(x:aB):∀n,Lib.repeatL x n=(List.replicate n x).flatten
 |0=>rfl
 |n+1=>by rw[Lib.repeatL,Da x n,List.replicate_succ,List.flatten_cons]
def vL{H:ad}{s:aB}{n:Nat}(h:s.length*n<=140737488355328)(a:n<=9223372036854775807):aA P aw 54 [Y s,I J n] H=D (Y (List.replicate n s).flatten,H):=by
 refine lD ?_;show(if 0<=(n:Int)/\(n:Int)<=9223372036854775807/\s.length*(n:Int).toNat<=140737488355328 then D (aa.str (Lib.repeatL s (n:Int).toNat),H)else Z)=_;rw[Int.toNat_natCast,if_pos ⟨af,af,h⟩,Da]
def I1(a b:Int)(H:ad):b4 P H .max [3,3] [I J a,I J b]=D (I J (max a b)):=by
 simp[b4,rp];omega
def IZ(a b:Int)(H:ad):b4 P H .min [3,3] [I J a,I J b]=D (I J (min a b)):=by
 simp[b4,rq];omega
def type20{H:ad}{x:aB}{z:Int}(i:0<=z)(j:z<=3)(k:x.length<=100):W (aA P aw 20 [.agg [Y x,I J z]] H) λv H'=>v= Y (flat (ca x z))/\aM H H':=by
 refine cA (λ_=>J8 0) ?_;have d:∀l,dT l (.agg [Y x,I J z])=D (.ptr l 0 0,.row U 2 [[Y x,I J z]]):=λl=>hr l _ rfl
 have dh:=ad.bx H (.row U 2 [[Y x,I J z]]);obtain⟨n,rfl⟩:∃n:Nat,z=n:=⟨z.toNat,af⟩;have m1:max (n:Int) 0=n:=af;have m2:min (n:Int) 3=n:=af;have e:∀H,aA P aw 54 [Y [91],I J n] H=D (Y (List.replicate n [91]).flatten,H):=λH=>vL (by simp only[List.length_cons,List.length_nil];omega) af
 have h:∀H,aA P aw 54 [Y [93],I J n] H=D (Y (List.replicate n [93]).flatten,H):=λH=>vL (by simp only[List.length_cons,List.length_nil];omega) af
 have m:((List.replicate n ([91]:aB)).flatten).length=n:=by simp
 have o:((List.replicate n ([93]:aB)).flatten).length=n:=by simp
 have a:an P .add 9 U (Y (List.replicate n [91]).flatten) (Y x)=D (Y ((List.replicate n [91]).flatten++x)):=cW af;have c:an P .add 9 U (Y ((List.replicate n [91]).flatten++x)) (Y (List.replicate n [93]).flatten)=D (Y ((List.replicate n [91]).flatten++x++(List.replicate n [93]).flatten)):=cW (by rw[List.length_append];omega);rw[su,ur];simp-implicitDefEqProofs(disch:=try exact aj)only[reduceAdd,reduceLeDiff,reduceIte,av,d,dh,bd,I1,IZ,m1,m2,e,h,eK,a,c,bf];exact a_.2 ⟨by rw[Int.toNat_natCast];unfold gT;rw[List.append_assoc],aM.push _ _⟩
def rO{H:ad}{l i n:Nat}{cap:Option Nat}{ro:Bool}{els:List (List aa)}{j:Nat}{z:Int}(p:z=j)(q:j<n){a:bM}{kv:aa}(h:kv.one=X)(e:H.get l=D (.row ro 11 els))(c:els[i+j]? =D (a.cells kv)):
  W (aA P aw 41 [.ay l i n 11 cap,I J z] H) λv H'=>v= .agg (a.cells kv)/\aM H H':=by
 subst p;refine cA (λ_=>vT 0) ?_;have k:¬((n:Int)<=(j:Int)):=af;have m:(j:Int)<(n:Int):=af;have d:(0:Int)<=(j:Int):=af;have o:((j:Int)).toNat=j:=af;have g1:∀b,(H.push b).get l=D (.row ro 11 els):=λb=>(aM.push H b).get e
 simp only[bM.cells]at c ⊢;unfold o1;simp-implicitDefEqProofs(disch:=try exact aj)only[reduceAdd,reduceLeDiff,reduceIte,av,k,m,d,o,g1,c,h,decide_false];exact a_.2 ⟨rfl,aM.push _ _⟩
def b7.pU{H:ad}{ok:Nat->Prop}{ks:List aJ}{kv:aa}(h:b7 H ok ks kv)(H':ad):b4 P H' .len [41] [kv]=D (I J ks.length):=by
 rcases h with⟨rfl,e⟩|⟨l,i,cap,ro,els,rfl,_⟩|⟨l,i,cap,rfl,e⟩
 ·rw[e];exact qo
 ·generalize ks.length=n;exact lK
 ·rw[e];exact lK
def Ba{H:ad}{ok:Nat->Prop}{ks:List aJ}{kv:aa}(h:b7 H ok ks kv)(q:ks.length<=1000000000):W (aA P aw 41 [kv,I J 0] H) λv H'=>∃b c,v= .agg (bM.cells b c)/\c.one=X/\(∀cj d r,ks= .mk cj d::r->b=cj/\b7 H ok d c)/\aM H H':=by
 cases ks with
 |nil=>
  refine cA (λ_=>vT 0) ?_;have o:∀H',b4 P H' .len [41] [kv]=D (I J 0):=λH'=>h.pU H'
  have m:(0:Int)<=0:=af;unfold o1;simp-implicitDefEqProofs(disch:=try exact aj)only[reduceAdd,reduceLeDiff,reduceIte,av,o,m,decide_true];exact a_.2 ⟨{kind:=0,pos:=0},.ar,rfl,rfl,λ_ _ _ h=>(by cases h),aM.push _ _⟩
 |cons e r=>
  obtain⟨a,es⟩:=e;obtain⟨l,i,cap,ro,els,c,rfl,g1,aZ,k⟩:=h.jd (n:=r.length+1) (by simp) (j:=0) rfl;refine(rO (j:=0) rfl af k.ee g1 aZ).mono ?_;rintro v H' ⟨rfl,p⟩;exact⟨a,c,rfl,k.ee,λcj d r h=>by cases h;exact⟨rfl,k⟩,p⟩
def rf(e:aJ):Prop:=∀(d m:Nat),cv d m e->cL e<=1000000000->∀(a:bM) (ks:List aJ),e= .mk a ks->∀(H:ad) (ok:Nat->Prop) (kv:aa),b7 H ok ks kv->e2.hJ H->W (aA P aw 16 [.agg (a.cells kv)] H) λr H'=>r= Y (flat (bl e))/\aM H H'
def NJ{H:ad}{a:bM}{ks:List aJ}{kv:aa}{m:Nat}(p:kv.one=X)(q:∀H',aM H H'->W (aA P aw 16 [.agg (a.cells kv)] H') λr j=>r= Y (flat (bl (.mk a ks)))/\aM H' j)(s:(flat (bl (.mk a ks))).length<=1000000000):
  W (aA P aw 44 [.agg (a.cells kv),I J m] H) λr H'=>r= Y (flat (cl m (.mk a ks)))/\aM H H':=by
 refine cA (λ_=>Kn 0) ?_;have i:∀l,dT l (.agg (a.cells kv))=D (.ptr l 0 0,.row U 11 [a.cells kv]):=λl=>hr l _ (by simp only[bM.cells,List.all_cons,List.all_nil,gO,hA,p,Bool.and_self])
 have pp:=aM.push H (.row U 11 [a.cells kv]);have dh:=ad.bx H (.row U 11 [a.cells kv]);have e:=λH' (h:aM H H')=>q H' h
 simp only[bM.cells]at i pp dh e ⊢;unfold sF;simp-implicitDefEqProofs(disch:=try exact aj)only[reduceAdd,reduceLeDiff,reduceIte,av,i];refine aL B5 ?_;rintro _ _ ⟨rfl,rfl⟩;refine⟨bf _,?_⟩;by_cases hm:((c4 a.kind:Nat):Int)<(m:Int)
 ·have d:(aJ.mk a ks).cr<m:=by unfold aJ.cr aJ.kind;simp only;omega
  simp-implicitDefEqProofs(disch:=try exact aj)only[bd,br,c7,Nat.reduceAdd,Nat.reduceLeDiff,reduceIte,aa.cells,cK,dA,al,cD,dh,hm,decide_true];refine aL (e _ pp) ?_;rintro _ k ⟨rfl,c⟩;refine⟨c.1,?_⟩;have n:an P .add 9 X (Y [40]) (Y (flat (bl (.mk a ks))))=D (Y (40::flat (bl (.mk a ks)))):=jC _ _ _ _ (by simp only[List.length_cons,List.length_nil];omega);have o:an P .add 9 X (Y (40::flat (bl (.mk a ks)))) (Y [41])=D (Y (40::flat (bl (.mk a ks))++[41])):=jC _ _ _ _ (by simp only[List.length_cons,List.length_nil];omega);simp only[n,o,dG];exact a_.2 ⟨by rw[vx d,cT,c2];rfl,pp.trans c⟩
 ·have d:¬(aJ.mk a ks).cr<m:=by unfold aJ.cr aJ.kind;simp only;omega
  simp-implicitDefEqProofs(disch:=try exact aj)only[bd,br,c7,Nat.reduceAdd,Nat.reduceLeDiff,reduceIte,aa.cells,cK,dA,al,cD,dh,hm,decide_false];refine aL (e _ pp) ?_;rintro _ k ⟨rfl,c⟩;refine⟨c.1,?_⟩;exact a_.2 ⟨by rw[r7 d],pp.trans c⟩
def Hc:∀(f n:Nat),n<=f->∀(g:Nat) (acc:aB),n<10^(g+1)->gj (g+1) n acc=Lib.decDigits n++acc:=by
 intro f
 induction f with
 |zero=>
  intro n c g acc _;obtain rfl:n=0:=af;rw[gj,Lib.decDigits];rfl
 |succ f e=>
  intro n c g acc a;rw[gj,Lib.decDigits];by_cases h:n<10
  ·rw[dif_pos h,if_pos af,Nat.mod_eq_of_lt h];rfl
  ·rw[dif_neg h,if_neg af];have d:n/10<=f:=af;cases g with
   |zero=>simp at a;omega
   |succ g=>
    rw[e (n/10) d g _ (by rw[Nat.pow_succ]at a;omega)];simp
def hL.leaf{B:Nat}(a:bM):hL B (.mk a []):=by rw[hL,fI];exact⟨Nat.zero_le _,trivial⟩
def hL.one{B:Nat}(c:2<=B)(a:bM){e:aJ}(h:hL B e):hL B (.mk a [e]):=by
 rw[hL,fI,fI];exact⟨by simp;omega,h,trivial⟩
def hL.two{B:Nat}(c:2<=B)(a:bM){e f:aJ}(h:hL B e)(aX:hL B f):hL B (.mk a [e,f]):=by
 rw[hL,fI,fI,fI];exact⟨by simp;omega,h,aX,trivial⟩
def fI.append{B:Nat}{e:aJ}(h:hL B e):∀{l:List aJ},fI B l->fI B (l++[e])
 |[],_=>by simp only[List.nil_append];rw[fI,fI];exact⟨h,trivial⟩
 |x::xs,a=>by
  rw[fI]at a;simp only[List.cons_append];rw[fI];exact⟨a.1,fI.append h a.2⟩
def GR{α β:Type}{x:Option α}{f:α->Option β}{b:β}(h:x.bind f=D b):∃a,x=D a/\f a=D b:=cS.1 h
def Bm(T:List Tok)(s:aq):left T s<=T.length:=by unfold left;split<;>omega
def eC.same{H:ad}{v:aa}{T:List Tok}(h:eC H v T):bg (D v) v=true:=by
 rcases h with⟨rfl,_⟩|⟨l,i,cap,rfl,_⟩
 ·exact vH
 ·exact kT _ _ _ _ _
def cy.below{H:ad}{ok:Nat->Prop}{e:aJ}{v:aa}(h:cy H ok e v):cy H (λl=>ok l/\l<H.next) e v:=cy.aY (λ_ _ _ h g=>⟨⟨h,ad.aR g⟩,g⟩) e v h
def tw.fin{ok:Nat->Prop}{H bI:ad}{r:Nat}{T:List Tok}{ak:aa}{s s':aq}{a:bZ}{es:List aJ}{b6:aa}{x:Nat}(e:bG H r T ak s)(m:b2 r H bI)(d:bt bI r ak s')(i:b7 bI (λl=>ok l/\l≠x) es b6)(j:H.next<=x)(c:bN):
  tw ok H r T ak (.mk a es [] []) s' (.agg (a.cells b6 .ar .ar)) (bI.set x c):=by
 have k:=e.rd.lt;have m':=m.cz (.inr j) c;refine⟨m',e.mut m' ?_,lp.2 ⟨b6,.ar,.ar,rfl,i.aY (c8.set _ (by simp) λl h=>h.1),c1.nil _ _,c1.nil _ _⟩⟩;unfold bt at d ⊢;rw[ad.get_set_other af];exact d
def dz.append{H:ad}{ok:Nat->Prop}:∀(es:List bB) (cs:List (List aa)) (e:bB) (c:List aa),dz H ok es cs->cs.length=es.length->ec H ok e (.agg c)->dz H ok (es++[e]) (cs++[c])
 |[],[],e,c,_,_,h=>by
  simp only[List.nil_append];rw[dz,dz];exact⟨h,trivial⟩
 |[],_::_,e,c,_,a,_=>by simp at a
 |_::_,[],e,c,h,_,_=>by rw[dz]at h;exact h.elim
 |i::es,d::cs,e,c,h,a,he=>by
  rw[dz]at h;simp only[List.cons_append];rw[dz];exact⟨h.1,dz.append es cs e c h.2 (by simpa using a) he⟩
def wJ:P.underlying 71=D (.slice 112):=ah
def ye:hn P 112=D 136:=ah
def tR:eF P 112=D (.agg [I J 0,Y [],Y [],I J 0,.ar,.ar,.ar,I J 0,I J 0]):=ah
def Gn{H:ad}{L:Nat}{cs:List aa}{cap:Option Nat}{ro:Bool}(a:H.get L=D (.row ro 9 [cs])):cR P H [71,71] .ar (.ay L 0 1 9 cap)=D (.ay H.next 0 1 9 Z,H.push (.row U 9 [cs])):=by
 simp[cR,hv,iZ,dy,wJ,pj,ye,tR,hN,eu,a,aa.cells]
def Gp{H:ad}{L l n:Nat}{cs:List aa}{els:List (List aa)}{cap:Option Nat}{ro:Bool}(d:H.get L=D (.row ro 9 [cs]))(e:H.get l=D (.row U 9 els))(h:els.length=n)(i:n<=1000000000):cR P H [71,71] (.ay l 0 n 9 Z) (.ay L 0 1 9 cap)=D (.ay H.next 0 (n+1) 9 Z,(H.set l .dead).push (.row U 9 (els++[cs]))):=by
 have a:(n+1)*136<=140737488355328:=af;have c:n+1<=9223372036854775807:=af;simp[cR,hv,iZ,dy,wJ,pj,ye,tR,hN,eu,d,e,aa.cells,h,a,c];rw[List.take_of_length_le af]
def MP(l:Nat)(cs:List aa)(h:cs.length=9)(a:cs.all aa.one=X):bU P l 71 1 [(0,.agg cs)]=D (.ay l 0 1 9 (D 1),.row U 9 [cs]):=by
 simp[bU,wJ,pj,tR,aa.cells,iE,h,a,gO,hA,r5]
def kF(n0:Nat)(H:ad)(l:List bB)(v:aa):Prop:=(v= .ar/\l=[])\/∃L els,v= .ay L 0 l.length 9 Z/\H.get L=D (.row U 9 els)/\n0<=L/\els.length=l.length/\dz H (λk=>n0<=k/\k≠L) l els
def kF.mut{n0 r:Nat}{H H':ad}{l:List bB}{v:aa}(h:kF n0 H l v)(m:b2 r H H')(j:r<n0):kF n0 H' l v:=by
 rcases h with h|⟨L,els,a,c,d,e,i⟩
 ·exact .inl h
 ·exact .inr ⟨L,els,a,m.get c af,d,e,dz.aY (dX.mut m af λ_ h=>h) _ _ i⟩
def kF.DX{n0:Nat}{H:ad}{l:List bB}{v:aa}(h:kF n0 H l v):c1 H (bb n0) l v:=by
 rcases h with⟨rfl,rfl⟩|⟨L,els,a,c,d,i,e⟩
 ·exact c1.nil _ _
 ·exact .inr (.inl ⟨L,0,Z,U,els,a,d,c,by rw[List.drop_zero];exact dz.aY (dX.kP λ_ h=>h.1) _ _ e⟩)
def kF.app{n0 m:Nat}{H:ad}{l:List bB}{v:aa}(h:kF n0 H l v){e:bB}{cs:List aa}(he:ec H (bb m) e (.agg cs))(hm:n0<=m)(x:∀L n c,v= .ay L 0 n 9 c->L<m)(z:n0<=H.next)(w:l.length<=1000000000):
  ∃p H',cR P (H.push (.row U 9 [cs])) [71,71] v (.ay H.next 0 1 9 (D 1))=D (p,H')/\kF n0 H' (l++[e]) p/\cX (n0<= ·) H H'/\H.next+1<=H'.next:=by
 have o:=ad.bx H (.row U 9 [cs]);rcases h with⟨rfl,rfl⟩|⟨L,els,rfl,j,s,i,u⟩
 ·refine⟨_,_,Gn o,.inr ⟨_,[cs],rfl,ad.bx _ _,by simp only[ad.bQ];omega,rfl,?_⟩,(((aM.push _ _).bs _).mut _),by simp only[ad.bQ];omega⟩;rw[List.nil_append,dz,dz];refine⟨ec.aY ⟨λk ro els a g=>⟨⟨by unfold bb at a;omega,?_⟩,((aM.push _ _).bs _).get g⟩,λk ro els a g=>⟨⟨by unfold bb at a;omega,?_⟩,((aM.push _ _).bs _).get g⟩⟩ e _ he,trivial⟩
  all_goals have:=ad.aR g;simp only[ad.bQ];omega
 ·have y:=x L _ _ rfl;have A:=ad.aR j;have q:(H.push (.row U 9 [cs])).get L=D (.row U 9 els):=(aM.push _ _).get j;have d:∀k b,H.get k=D b->k≠L->(((H.push (.row U 9 [cs])).set L .dead).push (.row U 9 (els++[cs]))).get k=D b:=λk b g a=>by
   have:=ad.aR g;rw[ad.dp (by simp only[ad.di,ad.bQ];omega),ad.get_set_other af,ad.dp af];exact g
  refine⟨_,_,Gp o q i w,.inr ⟨_,els++[cs],by rw[List.length_append];rfl,ad.bx _ _,by simp only[ad.di,ad.bQ];omega,by simp[i],?_⟩,?_,by simp only[ad.di,ad.bQ];omega⟩
  ·refine dz.append _ _ _ _ (dz.aY ⟨λk ro es a g=>⟨⟨a.1,?_⟩,d _ _ g a.2⟩,λk ro es a g=>⟨⟨a.1,?_⟩,d _ _ g a.2⟩⟩ _ _ u) i (ec.aY ⟨λk ro es a g=>⟨⟨by unfold bb at a;omega,?_⟩,d _ _ g (by unfold bb at a;omega)⟩,λk ro es a g=>⟨⟨by unfold bb at a;omega,?_⟩,d _ _ g (by unfold bb at a;omega)⟩⟩ e _ he)
   all_goals have:=ad.aR g;simp only[ad.di,ad.bQ];omega
  ·exact(((aM.push _ _).mut _).cz (.inl s) _).bs _
def dd(H:ad)(ok:Nat->Prop)(H':ad)(ok':Nat->Prop):Prop:=∀l b,ok l->H.get l=D b->ok' l/\H'.get l=D b
def dd.s{H H':ad}{ok ok':Nat->Prop}(h:dd H ok H' ok'):dX H ok H' ok':=⟨λl _ _ a b=>h l _ a b,λl _ _ a b=>h l _ a b⟩
def dd.le{H:ad}{ok ok':Nat->Prop}(h:∀l,ok l->ok' l):dd H ok H ok':=λl _ a b=>⟨h l a,b⟩
def dd.mut{H H':ad}{ok:Nat->Prop}{S:Nat->Prop}(m:cX S H H')(h:∀l,ok l->¬S l):dd H ok H' ok:=λl _ a b=>⟨a,m.get b (h l a)⟩
def dd.aK{H H':ad}{ok:Nat->Prop}(m:aM H H'):dd H ok H' ok:=λ_ _ a b=>⟨a,m.get b⟩
def dd.trans{H1 d e:ad}{a b c:Nat->Prop}(h:dd H1 a d b)(k:dd d b e c):dd H1 a e c:=λl x y z=>k l x (h l x y z).1 (h l x y z).2
structure hK(α:Type) where
 esz:Nat
 V:ad->(Nat->Prop)->α->List aa->Prop
 len:∀{H ok a cs},V H ok a cs->cs.length=esz/\cs.all aa.one=true
 aY:∀{H ok H' ok'} {a:α} {cs},dd H ok H' ok'->V H ok a cs->V H' ok' a cs
section
variable {α:Type}{K:hK α}{H H':ad}{ok ok':Nat->Prop}
def c0(K:hK α)(ok:Nat->Prop)(H:ad)(l:List α)(v:aa):Prop:=(v= .ar/\l=[])\/∃L els,v= .ay L 0 l.length K.esz Z/\ok L/\H.get L=D (.row U K.esz els)/\els.length=l.length/\∀(i:Nat) (a:α),l[i]? =D a->∃cs,els[i]? =D cs/\K.V H (λk=>ok k/\k≠L) a cs
def dH(K:hK α)(H:ad)(ok:Nat->Prop)(l:List α)(v:aa):Prop:=(v= .ar/\l=[])\/(∃L i cap ro els,v= .ay L i l.length K.esz (Option.map (· +l.length) cap)/\ok L/\H.get L=D (.row ro K.esz els)/\∀(j:Nat) (a:α),l[j]? =D a->∃cs,els[i+j]? =D cs/\K.V H ok a cs)\/∃L i cap,v= .ay L i 0 K.esz cap/\l=[]
def c0.one{l:List α}{v:aa}(h:c0 K ok H l v):v.one=true:=by
 rcases h with⟨rfl,_⟩|⟨L,els,rfl,_⟩<;>rfl
def dH.one{l:List α}{v:aa}(h:dH K H ok l v):v.one=true:=by
 rcases h with⟨rfl,_⟩|⟨L,i,cap,ro,els,rfl,_⟩|⟨L,i,cap,rfl,_⟩<;>rfl
def c0.nil:c0 K ok H [] .ar:= .inl ⟨rfl,rfl⟩
def dH.nil:dH K H ok [] .ar:= .inl ⟨rfl,rfl⟩
def c0.aY{l:List α}{v:aa}(p:dd H ok H' ok')(h:c0 K ok H l v):c0 K ok' H' l v:=by
 rcases h with h|⟨L,els,j,d,e,m,n⟩
 ·exact .inl h
 ·refine .inr ⟨L,els,j,(p _ _ d e).1,(p _ _ d e).2,m,λi a o=> ?_⟩;obtain⟨cs,aZ,q⟩:=n i a o;exact⟨cs,aZ,K.aY (λk b c g=>⟨⟨(p _ _ c.1 g).1,c.2⟩,(p _ _ c.1 g).2⟩) q⟩
def dH.aY{l:List α}{v:aa}(p:dd H ok H' ok')(h:dH K H ok l v):dH K H' ok' l v:=by
 rcases h with h|⟨L,i,cap,ro,els,e,c,d,k⟩|h
 ·exact .inl h
 ·refine .inr (.inl ⟨L,i,cap,ro,els,e,(p _ _ c d).1,(p _ _ c d).2,λj a m=> ?_⟩);obtain⟨cs,aZ,n⟩:=k j a m;exact⟨cs,aZ,K.aY p n⟩
 ·exact .inr (.inr h)
def c0.ay{l:List α}{v:aa}(h:c0 K ok H l v):dH K H ok l v:=by
 rcases h with h|⟨L,els,c,d,e,n,i⟩
 ·exact .inl h
 ·refine .inr (.inl ⟨L,0,Z,U,els,c,d,e,λj a k=> ?_⟩);obtain⟨cs,aZ,m⟩:=i j a k;exact⟨cs,by rw[Nat.zero_add];exact aZ,K.aY (dd.le λ_ h=>h.1) m⟩
structure jY(t e esz:Nat):Prop where
 un:P.underlying t=some (.slice e)
 ts:cn P e=some esz
 gi:∃b,hn P e=some b/\b<=200
 tQ:∃z,eF P e=some z/\z.cells.length=esz/\z.cells.all aa.one=true
 pos:0<esz/\esz<=100
def Gr{t e esz:Nat}(y:jY t e esz){L:Nat}{cs:List aa}{cap:Option Nat}{ro:Bool}(d:H.get L=D (.row ro esz [cs])):cR P H [t,t] .ar (.ay L 0 1 esz cap)=D (.ay H.next 0 1 esz Z,H.push (.row U esz [cs])):=by
 obtain⟨b,c,j⟩:=y.gi;obtain⟨z,h,i,_⟩:=y.tQ;have a:b<=140737488355328:=af;simp[cR,hv,iZ,dy,y.un,y.ts,c,h,i,y.pos.1,hN,eu,d,a]
def Gs{t e esz:Nat}(y:jY t e esz){L l n:Nat}{cs:List aa}{els:List (List aa)}{cap:Option Nat}{ro:Bool}(i:H.get L=D (.row ro esz [cs]))(j:H.get l=D (.row U esz els))(k:els.length=n)(p:n<=1000000000):cR P H [t,t] (.ay l 0 n esz Z) (.ay L 0 1 esz cap)=D (.ay H.next 0 (n+1) esz Z,(H.set l .dead).push (.row U esz (els++[cs]))):=by
 obtain⟨b,h,d⟩:=y.gi;obtain⟨z,m,o,_⟩:=y.tQ;have a:(n+1)*b<=140737488355328:=Nat.le_trans (Nat.mul_le_mul_left (n+1) d) af;have c:n+1<=9223372036854775807:=af;simp[cR,hv,iZ,dy,y.un,y.ts,h,m,o,y.pos.1,hN,eu,i,j,k,a,c];rw[List.take_of_length_le af]
def q1{t e esz:Nat}(y:jY t e esz)(l:Nat){cs:List aa}(h:cs.length=esz)(d:cs.all aa.one=X):bU P l t 1 [(0,.agg cs)]=D (.ay l 0 1 esz (D 1),.row U esz [cs]):=by
 obtain⟨z,i,j,k⟩:=y.tQ;have n:1*esz<=16777216:=by have:=y.pos.2;omega
 have a:esz<=16777216:=by have:=y.pos.2;omega
 have c:(aa.agg cs).cells=cs:=rfl;simp[bU,y.un,y.ts,i,j,iE,h,d,a,c];have m:∀x∈z.cells,x.one=true:=by simpa using k
 rw[decide_eq_true m];rfl
def c0.app{t e:Nat}(y:jY t e K.esz){l:List α}{v:aa}(h:c0 K ok H l v){okE:Nat->Prop}{a:α}{cs:List aa}(he:K.V H okE a cs)(m:∀k b,okE k->H.get k=D b->ok' k/\∀L,v= .ay L 0 l.length K.esz Z->k≠L)(j:∀k b,ok k->H.get k=D b->ok' k)(s:ok' (H.next+1))(G:l.length<=1000000000):
  ∃w H',cR P (H.push (.row U K.esz [cs])) [t,t] v (.ay H.next 0 1 K.esz (D 1))=D (w,H')/\c0 K ok' H' (l++[a]) w/\H.next+1<=H'.next/\(∀k,k<H.next->(∀L,v= .ay L 0 l.length K.esz Z->k≠L)->H'.get k=H.get k):=by
 have p:=ad.bx H (.row U K.esz [cs]);rcases h with⟨rfl,rfl⟩|⟨L,els,rfl,Q,n,o,B⟩
 ·refine⟨_,_,Gr y p,.inr ⟨_,[cs],rfl,by simpa only[ad.bQ]using s,ad.bx _ _,rfl,λi b d=> ?_⟩,by simp only[ad.bQ];omega,λk j _=> ?_⟩
  ·rcases i with _|i
   ·cases d;refine⟨cs,rfl,K.aY (λk b j g=> ?_) he⟩;have:=ad.aR g;exact⟨⟨(m k b j g).1,by simp only[ad.bQ];omega⟩,((aM.push _ _).bs _).get g⟩
   ·simp at d
  ·rw[ad.dp (by simp only[ad.bQ];omega),ad.dp af]
 ·have R:=ad.aR n;have A:=(aM.push H (.row U K.esz [cs])).get n;have u:∀k b,H.get k=D b->k≠L->(((H.push (.row U K.esz [cs])).set L .dead).push (.row U K.esz (els++[cs]))).get k=D b:=λk b g j=>by
   have:=ad.aR g;rw[ad.dp (by simp only[ad.di,ad.bQ];omega),ad.get_set_other af,ad.dp af];exact g
  refine⟨_,_,Gs y p A o G,.inr ⟨_,els++[cs],by rw[List.length_append];rfl,by simpa only[ad.di,ad.bQ]using s,ad.bx _ _,by simp[o],λi b d=> ?_⟩,by simp only[ad.di,ad.bQ];omega,λk j M=> ?_⟩
  ·by_cases F:i<l.length
   ·rw[List.getElem?_append_left F]at d;obtain⟨c,aZ,O⟩:=B i b d;refine⟨c,by rw[List.getElem?_append_left af];exact aZ,K.aY (λk x q g=> ?_) O⟩;have:=ad.aR g;exact⟨⟨j k x q.1 g,by simp only[ad.di,ad.bQ];omega⟩,u k x g q.2⟩
   ·rw[List.getElem?_append_right af]at d;have E:i-l.length=0:=by
     rcases N:i-l.length with _|z
     ·rfl
     ·rw[N]at d;simp at d
    rw[E]at d;cases d;refine⟨cs,by rw[List.getElem?_append_right af,show i-els.length=0 by omega];rfl,K.aY (λk x j g=> ?_) he⟩;have:=ad.aR g;exact⟨⟨(m k x j g).1,by simp only[ad.di,ad.bQ];omega⟩,u k x g ((m k x j g).2 L rfl)⟩
  ·rw[ad.dp (by simp only[ad.di,ad.bQ];omega),ad.get_set_other (by exactλe=>M L rfl e.symm),ad.dp af]
end
def om:hK aB:=⟨1,λ_ _ s cs=>cs=[Y s],λh=>by rw[h];exact⟨rfl,rfl⟩,λ_ h=>h⟩
def B4:jY 50 9 1:=⟨ah,wH,⟨_,(by kernel_rfl:hn P 9=D 16),b1⟩,⟨_,(by kernel_rfl:eF P 9=D (Y [])),rfl,rfl⟩,b1⟩
def D0:∀(els:List (List aa)) (l:List aB),els.length=l.length->(∀(i:Nat) (a:aB),l[i]? =D a->els[i]? =D [Y a])->lh els=D l
 |[],[],_,_=>rfl
 |[],_::_,h,_=>by cases h
 |_::_,[],h,_=>by cases h
 |e::els,s::l,j,h=>by
  have c:=h 0 s rfl;simp only[List.getElem?_cons_zero,aS]at c;subst c;rw[lh,D0 els l (by simpa using j) λi a d=>by simpa using h (i+1) a (by simpa using d)];rfl
def wj(l:Nat)(s:aB):bU P l 50 1 [(0,Y s)]=D (.ay l 0 1 1 (D 1),.row U 1 [[Y s]]):=ah
def rN{H:ad}{ok:Nat->Prop}{l:List aB}{v:aa}(h:c0 om ok H l v){sep:aB}(o:l.length<=1000000000)(m:(Lib.join l sep).length<=140737488355328):aA P aw 59 [v,Y sep] H=D (Y (Lib.join l sep),H):=by
 refine lD ?_;rcases h with⟨rfl,rfl⟩|⟨L,els,rfl,_,c,d,e⟩
 ·rfl
 ·have j:eu H L 0 l.length 1=D els:=by
   unfold eu;rw[c];show(if om.esz=1/\0+l.length<=els.length then D ((els.drop 0).take l.length)else Z)=_;rw[if_pos ⟨rfl,af⟩,List.drop_zero,List.take_of_length_le af]
  have az:lh els=D l:=D0 els l d λi a k=>by
   obtain⟨cs,aZ,n⟩:=e i a k;rw[aZ,show cs=[Y a]from n]
  show(match eu H L 0 l.length 1 with
   |some es=>(match lh es with
    |some xs=>if xs.length<=140737488355328/\(Lib.join xs sep).length<=140737488355328 then D (aa.str (Lib.join xs sep),H)else Z
    |none=>Z)
   |none=>Z)=_
  rw[j];simp only
  rw[az];simp only
  rw[if_pos ⟨af,m⟩]
def uS:∀ks:List aJ,Lib.join (ks.map λe=>flat (bl e)) [44,32]=flat (eA (c5 ks))
 |[]=>rfl
 |[e]=>by rw[List.map_cons,List.map_nil,Lib.join_one,c5,c5,eA]
 |e::f::r=>by
  have a:=uS (f::r);rw[List.map_cons,Lib.join_cons,List.map_cons,Lib.joinTail,List.map_cons,List.flatten_cons];rw[List.map_cons,Lib.join_cons,Lib.joinTail]at a;have c:c5 (e::f::r)=(e.cr,bl e)::(f.cr,bl f)::c5 r:=by rw[c5,c5]
  have d:c5 (f::r)=(f.cr,bl f)::c5 r:=by rw[c5]
  rw[c,eA,c2,cT,dY,<-d,<-a]
  ·simp only[List.append_assoc];rfl
  ·intro h;cases h
def c0.aK{α:Type}{K:hK α}{H H':ad}{ok:Nat->Prop}{l:List α}{v:aa}(h:c0 K ok H l v)(p:aM H H'):c0 K ok H' l v:=h.aY (dd.aK p)
section
variable {N:Nat}{H0:ad}{L i n:Nat}{cap:Option Nat}{ro:Bool}{els:List (List aa)}{ok:Nat->Prop}
def BX(E:H0.get L=D (.row ro 11 els))(F:e2.hJ H0)(ai:n<=1000000000){all:List aJ}(ag:(flat (eA (c5 all))).length<=1000000000):∀(es:List aJ) (j k:Nat) (done:List aJ) (v:aa) (H:ad),all=done++es->done.length=j->(∀e∈es,rf e/\∃d,cv d 0 e)->(∀e∈es,cL e<=1000000000)->dc H0 ok es (els.drop (i+j))->n=j+es.length->es.length<k->aM H0 H->c0 om (λl=>H0.next<=l) H (done.map λe=>flat (bl e)) v->
  W (k6 (aA P aw) N k v (.ay L i n 11 cap) (I J n) (I J j) H) λv H'=>v= Y (flat (eA (c5 all)))/\aM H0 H'
 |_,_,0,_,_,_,_,_,_,_,_,_,x,_,_=>af
 |[],j,k+1,done,v,H,m,B,az,hw,he,o,x,pp,u=>by
  have w:¬((j:Int)<(n:Int)):=by simp at o;omega
  rw[List.append_nil]at m;subst m;have s:aA P aw 59 [v,Y [44,32]] H=D (Y (flat (eA (c5 all))),H):=by
   rw[<-uS];exact rN u (by rw[List.length_map];simp at o;omega) (by rw[uS];omega)
  simp-implicitDefEqProofs(disch:=try exact aj)only[k6,o2,ns,bd,br,c7,w,decide_false,s,eK,bf];exact a_.2 ⟨rfl,pp⟩
 | .mk a ks::es,j,k+1,done,v,H,m,B,az,hw,he,o,x,pp,u=>by
  simp only[List.length_cons]at o x;have w:(j:Int)<(n:Int):=af;have am:((j:Int)).toNat=j:=af;have ab:(0:Int)<=(j:Int):=af;have ax:IntKind.i64.wrap ((j:Int)+1)=((j+1:Nat):Int):=by rw[wrap_i64 af af];omega
  obtain⟨cs,aZ,ap,aq⟩:=he.cons;obtain⟨y,au,O⟩:=hp.1 ap;cases au;obtain⟨aF,d,an⟩:=az _ (List.mem_cons_self ..);have g1:=pp.get E;have ak:=O.ee;have p:=pp.bs (.row U 11 [a.cells y]);have M:=aF d 0 an (hw _ (List.mem_cons_self ..)) a ks rfl _ ok y (O.aK p) (F.aK p);simp only[bM.cells]at aZ p M;simp-implicitDefEqProofs(disch:=try exact aj)only[k6,o2,reduceAdd,reduceLeDiff,reduceIte,av,w,ab,am,decide_true,g1,aZ,ak];refine aL M ?_;rintro _ c ⟨rfl,z⟩;refine⟨z.1,?_⟩;have q:=p.trans z;have A:=(u.aK (aM.push H (.row U 11 [a.cells y]))).aK z;have al:bU P c.next 50 1 [(0,Y (flat (bl (.mk a ks))))]=D (.ay c.next 0 1 1 (D 1),.row U 1 [[Y (flat (bl (.mk a ks)))]]):=wj _ _
  have aC:done.length<=1000000000:=af;obtain⟨Q,H',s,R,S,b3⟩:=c0.app (K:=om) (ok':=λl=>H0.next<=l) B4 A (okE:=λ_=>False) (a:=flat (bl (.mk a ks))) (cs:=[Y (flat (bl (.mk a ks)))]) rfl (λ_ _ h=>h.elim) (λ_ _ h _=>h) (by have:=q.1;show H0.next<=c.next+1;omega) (by rw[List.length_map];omega);have ao:aM H0 H':=by
   refine⟨by have:=q.1;omega,λl ah=> ?_⟩;have:=q.1;rw[b3 l af λL G ae=> ?_]
   ·exact q.2 l ah
   ·subst ae;rcases A with⟨rfl,_⟩|⟨L',_,rfl,aB,_⟩
    ·cases G
    ·cases G;omega
  have V:cR P (c.push (.row U 1 [[Y (flat (bl (.mk a ks)))]])) [50,50] v (.ay c.next 0 1 1 (D 1))=D (Q,H'):=s;have T:(c.push (.row U 1 [[Y (flat (bl (.mk a ks)))]])).next<=H'.next:=by rw[ad.bQ];exact S
  simp-implicitDefEqProofs(disch:=try exact aj)only[bd,br,al,V,eK,T,c7,ax];exact BX E F ai ag es (j+1) k (done++[.mk a ks]) Q H' (by rw[m,List.append_assoc];rfl) (by rw[List.length_append,B];rfl) (λe h=>az e (List.mem_cons_of_mem _ h)) (λe h=>hw e (List.mem_cons_of_mem _ h)) (by rw[show i+(j+1)=i+j+1 by omega];exact aq) af af ao (by rw[List.map_append];exact R)
end
def IP{H:ad}{ok:Nat->Prop}{ks:List aJ}{kv:aa}(h:b7 H ok ks kv)(m:e2.hJ H)(az:∀e∈ks,rf e/\∃d,cv d 0 e)(hw:∀e∈ks,cL e<=1000000000)(q:ks.length<=100000000)(o:(flat (eA (c5 ks))).length<=1000000000):W (aA P aw 45 [kv] H) λv H'=>v= Y (flat (eA (c5 ks)))/\aM H H':=by
 refine cA (λ_=>Ko (ks.length+1)) ?_;have k:=λH'=>h.pU H'
 rw[sG];simp-implicitDefEqProofs(disch:=try exact aj)only[reduceAdd,reduceLeDiff,reduceIte,av,k];by_cases c:ks.length=0
 ·obtain rfl:=List.length_eq_zero_iff.1 c;have n:¬((0:Int)<(0:Int)):=af;have j:aA P aw 59 [.ar,Y [44,32]] H=D (Y [],H):=rN (ok:=λ_=>True) (l:=[]) (.inl ⟨rfl,rfl⟩) (Nat.zero_le _) (Nat.zero_le _);simp-implicitDefEqProofs(disch:=try exact aj)only[k6,o2,ns,reduceAdd,reduceLeDiff,reduceIte,av,n,decide_false,j,eK,Int.natCast_zero];exact a_.2 ⟨rfl,.refl _⟩
 ·rcases h with⟨_,a⟩|⟨L,i,cap,ro,els,rfl,_,g1,p⟩|⟨_,_,_,_,a⟩
  ·exact absurd a c
  ·exact BX (N:=ks.length+1) g1 m af o ks 0 (ks.length+1) [] .ar H rfl rfl az hw (by rw[Nat.add_zero];exact p) af af (.refl _) (.inl ⟨rfl,rfl⟩)
  ·exact absurd a c
open Classical in
def Ik{H:ad}(c:e2.hJ H){n:Int}(d:0<=n)(a:n<=9223372036854775807):aA P aw 42 [I J n] H=D (Y (gj 20 n.toNat []),H):=by
 refine lD ?_;show(if-9223372036854775808<=n/\n<=9223372036854775807/\H.get 0=D (.row X 1 jn)then D (aa.str (Lib.itoa n),H)else Z)=_;rw[if_pos ⟨af,a,c.sZ⟩];unfold Lib.itoa;rw[if_neg af,Hc n.toNat n.toNat (bf _) 19 [] (by have:=sd;omega),List.append_nil]
def zy{H:ad}(b:Bool):aA P aw 43 [.bool b] H=D (Y (bif b then[116,114,117,101]else[102,97,108,115,101]),H):=by
 refine lD ?_;show D (aa.str (Lib.formatBool b),H)=_;cases b<;>rfl
def bH:∀e:aJ,rf e
 | .mk a ks=>by
  have az:∀e∈ks,rf e:=λe he=>bH e
  intro d m aF hw bR a7 he H ok kv O aG;cases he;have h:=aF.low (m':=0) (Nat.zero_le _);clear aF;have hlen:=ox h;have aU:=O.ee;have ak:∀l,dT l (.agg (a.cells kv))=D (.ptr l 0 0,.row U 11 [a.cells kv]):=λl=>hr l _ (by simp only[bM.cells,List.all_cons,List.all_nil,gO,hA,aU,Bool.and_self])
  have pp:=aM.push H (.row U 11 [a.cells kv]);have dh:=ad.bx H (.row U 11 [a.cells kv]);have ag:∀{S m':Nat} {b:bM} {i:List aJ},aJ.mk b i∈ks->cv S m' (.mk b i)->cL (.mk b i)<=1000000000/\∀(H':ad) (M:aa),b7 H' ok i M->aM H H'->W (aA P aw 16 [.agg (b.cells M)] H') λr ao=>r= Y (flat (bl (.mk b i)))/\aM H' ao:=by
   intro S m' b i hm v;have hle:cL (.mk b i)<=bY ks:=by
    clear az hlen O hw h ak pp dh
    induction ks with
    |nil=>cases hm
    |cons k r aZ=>
     rw[bY];rcases List.mem_cons.1 hm with rfl|hm
     ·omega
     ·have:=aZ hm;omega
   rw[cL]at hw;have aH:cL (.mk b i)<=1000000000:=af;exact⟨aH,λH' M al aD=>az _ hm S m' v aH b i rfl H' ok M al (aG.aK aD)⟩
  have fc:∀{S m':Nat} {b:bM} {i:List aJ} (n:Nat) {z:Int},z=n->aJ.mk b i∈ks->cv S m' (.mk b i)->∀(H':ad) (M:aa),b7 H' ok i M->aM H H'->W (aA P aw 44 [.agg (b.cells M),I J z] H') λr ao=>r= Y (flat (cl n (.mk b i)))/\aM H' ao:=by
   intro S m' b i n z aX hm v H' M al aD;subst aX;obtain⟨B,q⟩:=ag hm v;have:=ox v;exact NJ al.ee (λQ T=>q Q M (al.aK T) (aD.trans T)) af
  have aR:ks.length<=1000000000:=by have:=qh ks;rw[cL]at hw;omega
  refine cA (λ_=>Ds 0) ?_;have aC:=Ba (O.aK pp) aR;simp only[bM.cells]at ak pp dh aC ⊢;rw[qO];simp-implicitDefEqProofs(disch:=try exact aj)only[reduceAdd,reduceLeDiff,reduceIte,av,ak];refine aL aC ?_;rintro _ Q ⟨b,G,rfl,bE,ax,T⟩;refine⟨T.1,?_⟩;have V:=T.bs (.row U 11 [b.cells G]);have u:=pp.trans V;have s:=V.get dh;have g3:=ad.bx Q (.row U 11 [b.cells G]);have N:∀cj i r,ks= .mk cj i::r->b=cj/\b7 (Q.push (.row U 11 [b.cells G])) ok i G:=λcj i r h=>⟨(ax cj i r h).1,(ax cj i r h).2.aK V⟩
  simp only[bM.cells]at V u s g3 N;clear aC ax;simp-implicitDefEqProofs(disch:=try exact aj)only[reduceAdd,reduceLeDiff,reduceIte,av,bE,s];have am:=O.aK u;have aB:=aG.aK u;generalize Q.next=a9 at g3 ⊢
  generalize Q.push (.row U 11 [[I J b.kind,I J b.n,Y b.name,Y b.cf,I J b.c3,G,I J b.pos,I J b.s3,I J b.Ez,I J b.ph,I J b.ref]])=ae at V u s g3 N am aB ⊢;clear T V ak pp dh;generalize H.next=a8 at s ⊢
  clear Q;cases h with
  |par B q y=>omega
  | @int d m n p B q y=>
   have w:=Ik aB q y;simp-implicitDefEqProofs(disch:=try exact aj)only[reduceAdd,reduceLeDiff,reduceIte,av,Int.reduceBEq,s,w,eK];refine a_.2 ⟨?_,u⟩;rw[eJ];show _=aa.str (flat [.t ⟨2,[],n,0⟩]);simp[flat,bw.nN,gE]
  | @bool d m n p B q=>
   have w:aA P aw 43 [.bool X] ae=D (Y [116,114,117,101],ae):=zy X;have A:aA P aw 43 [.bool U] ae=D (Y [102,97,108,115,101],ae):=zy U;rcases q with rfl|rfl
   ·simp-implicitDefEqProofs(disch:=try exact aj)only[reduceAdd,reduceLeDiff,reduceIte,av,Int.reduceBEq,Int.reduceBNe,s,w,A,eK];exact a_.2 ⟨by rw[eJ];rfl,u⟩
   ·simp-implicitDefEqProofs(disch:=try exact aj)only[reduceAdd,reduceLeDiff,reduceIte,av,Int.reduceBEq,Int.reduceBNe,s,w,A,eK];exact a_.2 ⟨by rw[eJ];rfl,u⟩
  | @null d m x z p B q=>
   simp-implicitDefEqProofs(disch:=try exact aj)only[reduceAdd,reduceLeDiff,reduceIte,av,Int.reduceBEq,s];refine aL (type20 q.1 q.2.1 (by have:=fs q;omega)) ?_;rintro _ K ⟨rfl,o⟩;refine⟨o.1,?_⟩;have a2:=hS x z;have:=fs q;have:=q.2.1;have w:an P .add 9 X (Y [110,117,108,108,32]) (Y (flat (ca x z)))=D (Y ([110,117,108,108,32]++flat (ca x z))):=cW (by simp only[List.length_cons,List.length_nil];omega);simp only[w,dG];exact a_.2 ⟨by rw[eJ];rfl,u.trans o⟩
  | @var d m x p B q=>
   simp-implicitDefEqProofs(disch:=try exact aj)only[reduceAdd,reduceLeDiff,reduceIte,av,Int.reduceBEq,s];exact a_.2 ⟨by rw[eJ];show _=aa.str (flat [cc x]);rw[iK,cY,List.append_nil],u⟩
  | @field d m x p e B q y=>
   obtain⟨cj,i⟩:=e;obtain⟨rfl,E⟩:=N _ _ _ rfl;rw[qz,cV]at hlen;have v:=fc 7 rfl (by simp) y _ G E u;simp only[bM.cells]at v;simp-implicitDefEqProofs(disch:=try exact aj)only[reduceAdd,reduceLeDiff,reduceIte,av,Int.reduceBEq,s,g3];refine aL v ?_;rintro _ K ⟨rfl,o⟩;refine⟨o.1,?_⟩;have L:=o.get s;have:=eN q;have w:an P .add 9 X (Y (flat (cl 7 (.mk b i)))) (Y [46])=D (Y (flat (cl 7 (.mk b i))++[46])):=cW (by simp only[List.length_cons,List.length_nil];omega);have A:an P .add 9 U (Y (flat (cl 7 (.mk b i))++[46])) (Y x)=D (Y (flat (cl 7 (.mk b i))++[46]++x)):=cW (by simp only[List.length_append,List.length_cons,List.length_nil];omega)
   simp-implicitDefEqProofs(disch:=try exact aj)only[reduceAdd,reduceLeDiff,reduceIte,av,s,L,w,A];exact a_.2 ⟨by rw[qz,c2,cT,iK,cY];simp,u.trans o⟩
  | @item d m p e f B q y=>
   obtain⟨cj,i⟩:=e;obtain⟨c,cs⟩:=f;obtain⟨rfl,E⟩:=N _ _ _ rfl;obtain⟨l',aY,aN,a0,aO,kw,rfl,au,aE,ah⟩:=am.jd (n:=2) rfl (j:=1) rfl;rw[qA,cV,c9,cV]at hlen;have v:=fc 7 rfl (by simp) q _ G E u;simp only[bM.cells]at v;simp-implicitDefEqProofs(disch:=try exact aj)only[reduceAdd,reduceLeDiff,reduceIte,av,Int.reduceBEq,s,g3];refine aL v ?_;rintro _ K ⟨rfl,o⟩;refine⟨o.1,?_⟩;have L:=o.get s;simp-implicitDefEqProofs(disch:=try exact aj)only[reduceAdd,reduceLeDiff,reduceIte,av,L];refine aL (rO (j:=1) rfl af ah.ee (o.get au) aE) ?_;rintro _ ap ⟨rfl,F⟩;refine⟨F.1,?_⟩;have aW:=(ag (by simp) y).2 ap kw (ah.aK (o.trans F)) ((u.trans o).trans F)
   refine aL aW ?_;rintro _ aI ⟨rfl,ai⟩;refine⟨ai.1,?_⟩;have w:an P .add 9 X (Y (flat (cl 7 (.mk b i)))) (Y [91])=D (Y (flat (cl 7 (.mk b i))++[91])):=cW (by simp only[List.length_cons,List.length_nil];omega);have A:an P .add 9 U (Y (flat (cl 7 (.mk b i))++[91])) (Y (flat (bl (.mk c cs))))=D (Y (flat (cl 7 (.mk b i))++[91]++flat (bl (.mk c cs)))):=cW (by simp only[List.length_append,List.length_cons,List.length_nil];omega);have R:an P .add 9 X (Y (flat (cl 7 (.mk b i))++[91]++flat (bl (.mk c cs)))) (Y [93])=D (Y (flat (cl 7 (.mk b i))++[91]++flat (bl (.mk c cs))++[93])):=cW (by simp only[List.length_append,List.length_cons,List.length_nil];omega)
   simp-implicitDefEqProofs(disch:=try exact aj)only[reduceAdd,reduceLeDiff,reduceIte,av,s,L,w,A,R];exact a_.2 ⟨by rw[qA,c2,cT,c2,cT,cY];simp,((u.trans o).trans F).trans ai⟩
  | @call d m x p l B q y=>
   have:=eN q;rw[cL]at hw hlen;simp only at hw hlen;rw[qy,lJ,c9,cV]at hlen;have a5:=qh ks;have aS:(flat (eA (c5 ks))).length<=1000000000:=af;have v:=IP am aB (λe he=>⟨az e he,_,y e he⟩) (λe he=>by
    obtain⟨c,cs⟩:=e;exact(ag he (y _ he)).1) af aS
   simp-implicitDefEqProofs(disch:=try exact aj)only[reduceAdd,reduceLeDiff,reduceIte,av,Int.reduceBEq,s];refine aL v ?_;rintro _ K ⟨rfl,o⟩;refine⟨o.1,?_⟩;have L:=o.get s;have w:an P .add 9 X (Y x) (Y [40])=D (Y (x++[40])):=cW (by simp only[List.length_cons,List.length_nil];omega);have A:an P .add 9 U (Y (x++[40])) (Y (flat (eA (c5 ks))))=D (Y (x++[40]++flat (eA (c5 ks)))):=cW (by simp only[List.length_append,List.length_cons,List.length_nil];omega);have R:an P .add 9 X (Y (x++[40]++flat (eA (c5 ks)))) (Y [41])=D (Y (x++[40]++flat (eA (c5 ks))++[41])):=cW (by simp only[List.length_append,List.length_cons,List.length_nil];omega)
   simp-implicitDefEqProofs(disch:=try exact aj)only[reduceAdd,reduceLeDiff,reduceIte,av,s,L,w,A,R];exact a_.2 ⟨by rw[qy,iK,cT,c2,cT,cY];simp,u.trans o⟩
  | @new d m x p B q=>
   have a6:=eN q;simp-implicitDefEqProofs(disch:=try exact aj)only[reduceAdd,reduceLeDiff,reduceIte,av,Int.reduceBEq,s];refine aL (type20 (x:=x) (z:=0) (Int.le_refl 0) af af) ?_;rintro _ K ⟨rfl,o⟩;refine⟨o.1,?_⟩;have aV:flat (ca x 0)=x:=by rw[ur];simp[gT]
   rw[aV];have w:an P .add 9 X (Y [110,101,119,32]) (Y x)=D (Y ([110,101,119,32]++x)):=cW (by simp only[List.length_cons,List.length_nil];omega);simp only[w,dG];exact a_.2 ⟨by rw[eJ];show _=aa.str (flat [wd [110,101,119],ct,cc x]);rw[gL,dY,iK,cY];simp,u.trans o⟩
  | @make d m x z p e B q y=>
   obtain⟨cj,i⟩:=e;obtain⟨rfl,E⟩:=N _ _ _ rfl;rw[qC,hy,ey,c9,cV,c9,c9,cV]at hlen;simp-implicitDefEqProofs(disch:=try exact aj)only[reduceAdd,reduceLeDiff,reduceIte,av,Int.reduceBEq,s];refine aL (type20 q.1 q.2.1 (by have:=fs q;omega)) ?_;rintro _ K ⟨rfl,o⟩;refine⟨o.1,?_⟩;have L:=o.get s;have g4:=o.get g3;have v:=(ag (by simp) y).2 K G (E.aK o) (u.trans o);simp only[bM.cells]at v;simp-implicitDefEqProofs(disch:=try exact aj)only[reduceAdd,reduceLeDiff,reduceIte,av,g4];refine aL v ?_;rintro _ ap ⟨rfl,F⟩;refine⟨F.1,?_⟩;have w:an P .add 9 X (Y [110,101,119,32,91]) (Y (flat (ca x z)))=D (Y ([110,101,119,32,91]++flat (ca x z))):=cW (by simp only[List.length_cons,List.length_nil];omega)
   have A:an P .add 9 X (Y ([110,101,119,32,91]++flat (ca x z))) (Y [93,40])=D (Y ([110,101,119,32,91]++flat (ca x z)++[93,40])):=cW (by simp only[List.length_append,List.length_cons,List.length_nil];omega);have R:an P .add 9 U (Y ([110,101,119,32,91]++flat (ca x z)++[93,40])) (Y (flat (bl (.mk b i))))=D (Y ([110,101,119,32,91]++flat (ca x z)++[93,40]++flat (bl (.mk b i)))):=cW (by simp only[List.length_append,List.length_cons,List.length_nil];omega);have aq:an P .add 9 X (Y ([110,101,119,32,91]++flat (ca x z)++[93,40]++flat (bl (.mk b i)))) (Y [41])=D (Y ([110,101,119,32,91]++flat (ca x z)++[93,40]++flat (bl (.mk b i))++[41])):=cW (by simp only[List.length_append,List.length_cons,List.length_nil];omega)
   have ab:=qJ (a:=b) E.beq;simp only[bM.cells]at ab;rw[w,dG,A,dG,R,dG,aq,dG];simp-implicitDefEqProofs(disch:=try exact aj)only[reduceAdd,reduceLeDiff,reduceIte,av,g3,g4,ab];exact a_.2 ⟨by rw[qC,gL,dY,cT,c2,cT,cT,c2,cT,cY];simp,(u.trans o).trans F⟩
  | @len d m p e B q=>
   obtain⟨cj,i⟩:=e;obtain⟨rfl,E⟩:=N _ _ _ rfl;rw[qB,hy,c9,cV]at hlen;have v:=(ag (by simp) q).2 ae G E u;simp only[bM.cells]at v;simp-implicitDefEqProofs(disch:=try exact aj)only[reduceAdd,reduceLeDiff,reduceIte,av,Int.reduceBEq,s,g3];refine aL v ?_;rintro _ K ⟨rfl,o⟩;refine⟨o.1,?_⟩;have w:an P .add 9 X (Y [108,101,110,40]) (Y (flat (bl (.mk b i))))=D (Y ([108,101,110,40]++flat (bl (.mk b i)))):=cW (by simp only[List.length_cons,List.length_nil];omega);have A:an P .add 9 X (Y ([108,101,110,40]++flat (bl (.mk b i)))) (Y [41])=D (Y ([108,101,110,40]++flat (bl (.mk b i))++[41])):=cW (by simp only[List.length_append,List.length_cons,List.length_nil];omega)
   rw[w,dG,A,dG];exact a_.2 ⟨by rw[qB,gL,cT,c2,cT,cY];simp,u.trans o⟩
  | @read d m p B=>
   simp-implicitDefEqProofs(disch:=try exact aj)only[reduceAdd,reduceLeDiff,reduceIte,av,Int.reduceBEq,s];exact a_.2 ⟨by rw[eJ];rfl,u⟩
  | @sign d m k p e B q y=>
   obtain⟨cj,i⟩:=e;obtain⟨rfl,E⟩:=N _ _ _ rfl;rw[mV q,c9]at hlen;have v:=fc 6 rfl (by simp) y _ G E u;simp only[bM.cells]at v;have ab:=qJ (a:=b) E.beq;simp only[bM.cells]at ab;rcases q with rfl|rfl
   ·simp-implicitDefEqProofs(disch:=try exact aj)only[reduceAdd,reduceLeDiff,reduceIte,av,Int.reduceBEq,s,k0];refine aL (DK (.inl rfl)) ?_;rintro _ _ ⟨rfl,rfl⟩;refine⟨bf _,?_⟩;simp-implicitDefEqProofs(disch:=try exact aj)only[reduceAdd,reduceLeDiff,reduceIte,av,g3];refine aL v ?_;rintro _ K ⟨rfl,o⟩;refine⟨o.1,?_⟩;have w:an P .add 9 U (Y (bif (12:Int)==12 then[45]else[33])) (Y (flat (cl 6 (.mk b i))))=D (Y ([45]++flat (cl 6 (.mk b i)))):=cW (t:=9) (a:=[45]) (by simp only[List.length_cons,List.length_nil];omega);simp-implicitDefEqProofs(disch:=try exact aj)only[reduceAdd,reduceLeDiff,reduceIte,av,w,g3,ab]
    exact a_.2 ⟨by rw[mV (.inl rfl),cT];rfl,u.trans o⟩
   ·simp-implicitDefEqProofs(disch:=try exact aj)only[reduceAdd,reduceLeDiff,reduceIte,av,Int.reduceBEq,s,k0];refine aL (DK (.inr rfl)) ?_;rintro _ _ ⟨rfl,rfl⟩;refine⟨bf _,?_⟩;simp-implicitDefEqProofs(disch:=try exact aj)only[reduceAdd,reduceLeDiff,reduceIte,av,g3];refine aL v ?_;rintro _ K ⟨rfl,o⟩;refine⟨o.1,?_⟩;have w:an P .add 9 U (Y (bif (13:Int)==12 then[45]else[33])) (Y (flat (cl 6 (.mk b i))))=D (Y ([33]++flat (cl 6 (.mk b i)))):=cW (t:=9) (a:=[33]) (by simp only[List.length_cons,List.length_nil];omega);simp-implicitDefEqProofs(disch:=try exact aj)only[reduceAdd,reduceLeDiff,reduceIte,av,w,g3,ab]
    exact a_.2 ⟨by rw[mV (.inr rfl),cT];rfl,u.trans o⟩
  | @bin d m k p e f B q y aP aQ=>
   obtain⟨cj,i⟩:=e;obtain⟨c,cs⟩:=f;obtain⟨rfl,E⟩:=N _ _ _ rfl;obtain⟨l',aY,aN,a0,aO,kw,rfl,au,aE,ah⟩:=am.jd (n:=2) rfl (j:=1) rfl;rw[qx q,cV,ey,c9,ey]at hlen;have a4:=u7 q y;have cq:∀m:Int,m<14->(k==m)=false:=λm h=>by simp;omega
   have a1:IntKind.i64.wrap (((c4 k:Nat):Int)+1)=((c4 k+1:Nat):Int):=by have:=ve k;rw[wrap_i64 af af];omega
   have v:=fc (c4 k) rfl (by simp) aP _ G E u;simp only[bM.cells]at v;simp-implicitDefEqProofs(disch:=try exact aj)only[reduceAdd,reduceLeDiff,reduceIte,av,s,cq 1 af,cq 2 af,cq 3 af,cq 4 af,cq 5 af,cq 6 af,cq 7 af,cq 8 af,cq 9 af,cq 10 af,cq 11 af,cq 12 af,cq 13 af,k0];unfold lV;simp-implicitDefEqProofs(disch:=try exact aj)only[reduceAdd,reduceLeDiff,reduceIte,av,s];refine aL (MH q y) ?_;rintro _ _ ⟨rfl,rfl⟩;refine⟨bf _,?_⟩;have a3:(gC k != [])=true:=by
    have O:k=14\/k=15\/k=16\/k=17\/k=18\/k=19\/k=20\/k=21\/k=22\/k=23\/k=24:=af;rcases O with rfl|rfl|rfl|rfl|rfl|rfl|rfl|rfl|rfl|rfl|rfl<;>rfl
   have aT:an P .neq 9 X (Y (gC k)) (Y [])=D (.bool X):=by
    have O:k=14\/k=15\/k=16\/k=17\/k=18\/k=19\/k=20\/k=21\/k=22\/k=23\/k=24:=af;rcases O with rfl|rfl|rfl|rfl|rfl|rfl|rfl|rfl|rfl|rfl|rfl<;>rfl
   simp-implicitDefEqProofs(disch:=try exact aj)only[bd,br,aT,reduceAdd,reduceLeDiff,reduceIte,av,s];refine aL B5 ?_;rintro _ _ ⟨rfl,rfl⟩;refine⟨bf _,?_⟩;simp-implicitDefEqProofs(disch:=try exact aj)only[reduceAdd,reduceLeDiff,reduceIte,av,g3];refine aL v ?_;rintro _ K ⟨rfl,o⟩;refine⟨o.1,?_⟩;have L:=o.get s;simp-implicitDefEqProofs(disch:=try exact aj)only[reduceAdd,reduceLeDiff,reduceIte,av,L];refine aL (rO (j:=1) rfl af ah.ee (o.get au) aE) ?_;rintro _ ap ⟨rfl,F⟩;refine⟨F.1,?_⟩;simp-implicitDefEqProofs(disch:=try exact aj)only[reduceAdd,reduceLeDiff,reduceIte,av,a1];refine aL (fc (c4 k+1) rfl (by simp) aQ _ kw (ah.aK (o.trans F)) ((u.trans o).trans F)) ?_
   rintro _ aI ⟨rfl,ai⟩;refine⟨ai.1,?_⟩;have w:an P .add 9 X (Y (flat (cl (c4 k) (.mk b i)))) (Y [32])=D (Y (flat (cl (c4 k) (.mk b i))++[32])):=cW (by simp only[List.length_cons,List.length_nil];omega);have A:an P .add 9 U (Y (flat (cl (c4 k) (.mk b i))++[32])) (Y (gC k))=D (Y (flat (cl (c4 k) (.mk b i))++[32]++gC k)):=cW (by simp only[List.length_append,List.length_cons,List.length_nil];omega);have R:an P .add 9 X (Y (flat (cl (c4 k) (.mk b i))++[32]++gC k)) (Y [32])=D (Y (flat (cl (c4 k) (.mk b i))++[32]++gC k++[32])):=cW (by simp only[List.length_append,List.length_cons,List.length_nil];omega)
   have aq:an P .add 9 U (Y (flat (cl (c4 k) (.mk b i))++[32]++gC k++[32])) (Y (flat (cl (c4 k+1) (.mk c cs))))=D (Y (flat (cl (c4 k) (.mk b i))++[32]++gC k++[32]++flat (cl (c4 k+1) (.mk c cs)))):=cW (by simp only[List.length_append,List.length_cons,List.length_nil];omega);rw[w,dG,A,dG,R,dG,aq,dG];simp-implicitDefEqProofs(disch:=try exact aj)only[reduceAdd,reduceLeDiff,reduceIte,av,s,L];exact a_.2 ⟨by rw[qx q,c2,dY,cT,dY];simp,((u.trans o).trans F).trans ai⟩
section
set_option maxRecDepth 100000
noncomputable section
def sO(G:ax)(ag au:aa)(H:ad):O:=aG H (G 80 [ag] H) λn a=>j (bW ag) λe=>j (aI P 79 e 1) λh=>j (al P a 77 h) λi=>aG a (cR P a [77,9] i au) λk c=>j (bW ag) λl=>j (aI P 79 l 1) λbH=>a8 c (aT P c 77 bH k) λd=>bd P .len [9] [au] d λm=>D (.tuple [m,aa.nilIface],d)
def Kx(N:Nat){ag au:aa}{H:ad}{r:aa×ad}(h:sO (aA P aw) ag au H=D r):aA P aw 57 [ag,au] H=D r:=cQ N (S:=λG=>sO G ag au H) Tryd.func57 (λ_=>by delta sO;kernel_rfl) h
def sP(G:ax)(ag au:aa)(H:ad):O:=aG H (G 80 [ag] H) λbn a=>j (bW ag) λn=>j (aI P 79 n 1) λh=>j (al P a 77 h) λi=>bV a (bU P (a).next 77 1 [(0,au)]) λk c=>aG c (cR P c [77,77] i k) λl d=>j (bW ag) λm=>j (aI P 79 m 1) λbH=>a8 d (aT P d 77 bH l) λe=>D (aa.nilIface,e)
def Ky(N:Nat){ag au:aa}{H:ad}{r:aa×ad}(h:sP (aA P aw) ag au H=D r):aA P aw 58 [ag,au] H=D r:=cQ N (S:=λG=>sP G ag au H) Tryd.func58 (λ_=>by delta sP;kernel_rfl) h
end
end
section
set_option maxRecDepth 100000
noncomputable section
def oW(G:ax)(N:Nat)(ag:aa)(H:ad):O:=j (bW ag) λc=>j (aI P 81 c 0) λd=>aG H (G 58 [d,I .u8 10] H) λe a=>D (.tuple [],a)
def Lp(G:ax)(N:Nat):∀ae H,bm P G N (o (o (bq Tryd.f29))) (bh Tryd.f29) [] (bh Tryd.f29) ae H=oW G N (ae 0) H:=by
 refine bL (aH _) λae H=> ?_
 delta oW;kernel_rfl
def qP(G:ax)(N:Nat)(d:aa->aa->aa->aa->ad->O)(ag a:aa)(c bH:aa)(H:ad):O:=j (an P .lss 3 U bH c) λh=>aV (D h) (j (cG P 50 a bH) λi=>j (al P H 9 i) λk=>j (bW ag) λl=>j (aI P 81 l 0) λm=>aG H (G 57 [m,k] H) λo e=>j (an P .add 3 X bH (I J 1)) λn=>d ag a c n e) (oW G N ag H)
def lX(G:ax)(N:Nat):Nat->aa->aa->aa->aa->ad->O
 |0,_,_,_,_,_=>Z
 |n+1,ag,a,c,bH,H=>qP G N (lX G N n) ag a c bH H
def Lo(G:ax)(N:Nat)(c:aa->aa->aa->aa->ad->O):∀ae H,bm P G N (a1 (a1 (o (a1 (o (bq Tryd.f29)))))) (λae H=>c (ae 0) (ae 14) (ae 15) (ae 16) H) [(0,(λae H=>oW G N (ae 0) H))] (bh Tryd.f29) ae H=qP G N c (ae 0) (ae 14) (ae 15) (ae 16) H:=by
 refine bL (aH _) λae H=> ?_
 delta qP;generalize oW G N=a;revert a;refine id ?_;intro a;kernel_rfl
def sB(G:ax)(N:Nat)(ag au d:aa)(H:ad):O:=aG H (G 54 [Y [32,32],au] H) λh a=>j (bW ag) λk=>j (aI P 81 k 0) λe=>aG a (G 57 [e,h] a) λl c=>bd P .len [50] [d] c λi=>lX G N N ag d i (I J 0) c
def Kg(N:Nat){ag au a:aa}{H:ad}{r:aa×ad}(h:sB (aA P aw) N ag au a H=D r):aA P aw 29 [ag,au,a] H=D r:=cQ N (S:=λG=>sB G N ag au a H) Tryd.func29 (λG=>dO ((aN ah ((aN ah (Lp G N) ((aN ah ((db ah ((en (k:=λm ae H=>lX G N m (ae 0) (ae 14) (ae 15) (ae 16) H) ah (λae H=>ah) (λm=>Lo G N (lX G N m)))))) (aH _))))) (aH _))) (by delta sB;generalize lX G N N=c;revert c;refine id ?_;intro c;kernel_rfl)) h
def oY(G:ax)(N:Nat)(k:aa->aa->aa->aa->aa->ad->O)(ag au:aa)(h i c:aa)(H:ad):O:=j (an P .lss 3 U c i) λm=>aV (D m) (j (cG P 71 h c) λn=>j (al P H 112 n) λo=>cp H [I J 0,Y [],Y [],I J 0,aa.ar,aa.ar,aa.ar,I J 0,I J 0] λe d=>a8 d (aT P d 112 e o) λa=>j (al P a 112 e) λbH=>aG a (G 60 [ag,au,bH] a) λq l=>j (an P .add 3 X c (I J 1)) λp=>k ag au h i p l) (D (.tuple [],H))
def k4(G:ax)(N:Nat):Nat->aa->aa->aa->aa->aa->ad->O
 |0,_,_,_,_,_,_=>Z
 |n+1,ag,au,c,d,a,H=>oY G N (k4 G N n) ag au c d a H
def Lt(G:ax)(N:Nat)(a:aa->aa->aa->aa->aa->ad->O):∀ae H,bm P G N (a1 (a1 (o (bq Tryd.f31)))) (λae H=>a (ae 0) (ae 1) (ae 8) (ae 9) (ae 10) H) [(0,(bh Tryd.f31))] (bh Tryd.f31) ae H=oY G N a (ae 0) (ae 1) (ae 8) (ae 9) (ae 10) H:=by
 refine bL (aH _) λae H=> ?_
 delta oY;kernel_rfl
def sD(G:ax)(N:Nat)(ag au a:aa)(H:ad):O:=bd P .len [71] [a] H λc=>k4 G N N ag au a c (I J 0) H
def Ki(N:Nat){ag au a:aa}{H:ad}{r:aa×ad}(h:sD (aA P aw) N ag au a H=D r):aA P aw 31 [ag,au,a] H=D r:=cQ N (S:=λG=>sD G N ag au a H) Tryd.func31 (λG=>dO ((aN ah ((db ah ((en (k:=λm ae H=>k4 G N m (ae 0) (ae 1) (ae 8) (ae 9) (ae 10) H) ah (λae H=>ah) (λm=>Lt G N (k4 G N m)))))) (aH _))) (by delta sD;generalize k4 G N N=c;revert c;refine id ?_;intro c;kernel_rfl)) h
def nz(G:ax)(ag au:aa)(H:ad):O:=bV H (D (.ay (H).next 0 1 1 (D 1),.row U 1 [[Y [125]]])) λd a=>aG a (G 29 [ag,au,d] a) λe c=>D (.tuple [],c)
def L4(G:ax)(N:Nat):∀ae H,bm P G N (o (o (o (a1 (o (o (o (o (o (o (o (o (o (a1 (o (o (o (bq Tryd.f60)))))))))))))))))) (bh Tryd.f60) [(0,(bh Tryd.f60))] (bh Tryd.f60) ae H=nz G (ae 0) (ae 1) H:=by
 refine bL (aH _) λae H=> ?_
 delta nz;kernel_rfl
def sQ(G:ax)(ag au ah:aa)(H:ad):O:=bV H (dT (H).next ah) λe n=>j (aI P 112 e 3) λaR=>j (al P n 41 aR) λaW=>aG n (G 41 [aW,I J 0] n) λA s=>aG s (G 16 [A] s) λk o=>j (aI P 112 e 3) λp=>j (al P o 41 p) λq=>aG o (G 41 [q,I J 1] o) λab y=>aG y (G 16 [ab] y) λae c=>bif ((bg (al P n 41 p) q&&(bg (al P s 41 p) q&&(bg (al P o 41 p) q&&X)))&&X)then(j (aI P 112 e 0) λbH=>j (al P c 3 bH) λi=>j (an P .eql 3 X i (I J 1)) λaf=>aV (D af) (j (aI P 112 e 2) λai=>j (al P c 40 ai) λaj=>aG c (G 20 [aj] c) λak a=>j (aI P 112 e 1) λu=>j (al P a 9 u) λv=>bV a (bU P (a).next 50 5 [(0,(Y [118,97,114,32])),(1,v),(2,(Y [58,32])),(3,ak),(4,(Y [59]))]) λam d=>aG d (G 29 [ag,au,am] d) λa7 h=>bif ((bg (al P c 9 u) v&&(bg (al P a 9 u) v&&X))&&X)then(D (.tuple [],h))else Z) (j (an P .eql 3 X i (I J 2)) λao=>aV (D ao) (j (aI P 112 e 2) λap=>j (al P c 40 ap) λaq=>aG c (G 20 [aq] c) λav a=>j (aI P 112 e 1) λw=>j (al P a 9 w) λx=>bV a (bU P (a).next 50 7 [(0,(Y [108,101,116,32])),(1,x),(2,(Y [58,32])),(3,av),(4,(Y [32,61,32])),(5,k),(6,(Y [59]))]) λaw d=>aG d (G 29 [ag,au,aw] d) λa8 h=>bif ((bg (al P c 9 w) x&&(bg (al P a 9 w) x&&X))&&X)then(D (.tuple [],h))else Z) (j (an P .eql 3 X i (I J 3)) λaz=>aV (D az) (j (aI P 112 e 1) λaA=>j (al P c 9 aA) λaB=>bV c (bU P (c).next 50 4 [(0,aB),(1,(Y [32,61,32])),(2,k),(3,(Y [59]))]) λaC a=>aG a (G 29 [ag,au,aC] a) λa9 d=>D (.tuple [],d)) (j (an P .eql 3 X i (I J 4)) λaD=>aV (D aD) (bV c (bU P (c).next 50 4 [(0,k),(1,(Y [32,61,32])),(2,ae),(3,(Y [59]))]) λaE a=>aG a (G 29 [ag,au,aE] a) λa_ d=>D (.tuple [],d)) (j (an P .eql 3 X i (I J 5)) λaF=>aV (D aF) (bV c (bU P (c).next 50 3 [(0,(Y [105,102,32])),(1,k),(2,(Y [32,123]))]) λaH a=>aG a (G 29 [ag,au,aH] a) λba d=>j (an P .add 3 X au (I J 1)) λaJ=>j (aI P 112 e 4) λaK=>j (al P d 71 aK) λaL=>aG d (G 31 [ag,aJ,aL] d) λbb h=>j (aI P 112 e 5) λaM=>j (al P h 71 aM) λaN=>bd P .len [71] [aN] h λaO=>j (an P .gtr 3 X aO (I J 0)) λaP=>aV (D aP) (bV h (D (.ay (h).next 0 1 1 (D 1),.row U 1 [[Y [125,32,101,108,115,101,32,123]]])) λaQ m=>aG m (G 29 [ag,au,aQ] m) λbc l=>j (an P .add 3 X au (I J 1)) λaS=>j (aI P 112 e 5) λaT=>j (al P l 71 aT) λaU=>aG l (G 31 [ag,aS,aU] l) λbe z=>nz G ag au z) (nz G ag au h)) (j (an P .eql 3 X i (I J 6)) λaX=>aV (D aX) (bV c (bU P (c).next 50 3 [(0,(Y [119,104,105,108,101,32])),(1,k),(2,(Y [32,123]))]) λaY a=>aG a (G 29 [ag,au,aY] a) λbf d=>j (an P .add 3 X au (I J 1)) λaZ=>j (aI P 112 e 4) λa0=>j (al P d 71 a0) λB=>aG d (G 31 [ag,aZ,B] d) λa1 h=>bV h (D (.ay (h).next 0 1 1 (D 1),.row U 1 [[Y [125]]])) λE m=>aG m (G 29 [ag,au,E] m) λa2 l=>D (.tuple [],l)) (j (an P .eql 3 X i (I J 7)) λF=>aV (D F) (j (aI P 112 e 3) λK=>j (al P c 41 K) λL=>bd P .len [41] [L] c λM=>j (an P .eql 3 X M (I J 0)) λN=>aV (D N) (bV c (D (.ay (c).next 0 1 1 (D 1),.row U 1 [[Y [114,101,116,117,114,110,59]]])) λQ a=>aG a (G 29 [ag,au,Q] a) λa3 d=>D (.tuple [],d)) (bV c (bU P (c).next 50 3 [(0,(Y [114,101,116,117,114,110,32])),(1,k),(2,(Y [59]))]) λR a=>aG a (G 29 [ag,au,R] a) λa4 d=>D (.tuple [],d))) (j (an P .eql 3 X i (I J 8)) λS=>aV (D S) (bV c (bU P (c).next 50 3 [(0,(Y [112,114,105,110,116,32])),(1,k),(2,(Y [59]))]) λT a=>aG a (G 29 [ag,au,T] a) λa5 d=>D (.tuple [],d)) (j (an P .eql 3 X i (I J 9)) λV=>aV (D V) (bV c (bU P (c).next 50 2 [(0,k),(1,(Y [59]))]) λW a=>aG a (G 29 [ag,au,W] a) λa6 d=>D (.tuple [],d)) (D (.tuple [],c)))))))))))else Z
def Kz(N:Nat){ag au a:aa}{H:ad}{r:aa×ad}(h:sQ (aA P aw) ag au a H=D r):aA P aw 60 [ag,au,a] H=D r:=cQ N (S:=λG=>sQ G ag au a H) Tryd.func60 (λG=>dO ((aN ah ((aN ah ((aN ah ((db ah ((aN ah ((dt ah (aH _) ((aN ah ((dt ah (aH _) ((aN ah ((dt ah (aH _) ((aN ah ((dt ah (aH _) ((aN ah ((dt ah ((aN ah ((aN ah ((aN ah (L4 G N) (aH _))) (aH _))) (aH _))) (aH _))) (aH _))))) (aH _))))) (aH _))))) (aH _))))) (aH _))))) (aH _))) (aH _))) (aH _))) (by delta sQ;generalize nz G=c;revert c;refine id ?_;intro c;kernel_rfl)) h
