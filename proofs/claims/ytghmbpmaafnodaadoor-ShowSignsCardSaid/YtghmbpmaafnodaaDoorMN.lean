/-
  Texts of one proof, laid together: ShVa Va Vb Z12 Zb U1 U2 U3 U4 U5 Qa Vc Vd ShV ShVb.
-/
import Derived.Test.YtghmbpmaafnodaaDoorMM
set_option linter.unusedVariables false
set_option linter.unusedSimpArgs false
set_option linter.defProp false
open Option renaming some→D,none→Z
open Bool renaming true→X,false→U
open Go.b9.aa renaming int→I,str→Y
open Go.IntKind renaming i64→J
namespace Go.Proofs.YtghmbpmaafnodaaDoor
open Go.b9
open Nat (reduceAdd reduceLeDiff)
section
set_option maxRecDepth 100000
noncomputable section
def oU(G:az)(ag aw:aa)(H:ad):O:=cf H [I J 0,I J 0,Y [],Y [],I J 0,aa.ar,I J 0,I J 0,I J 0,I J 0,I J 0] λd a=>bg P .len [41] [ag] a λi=>j (aq P .geq 3 U aw i) λk=>aW (D k) (a7 a (aV P a 45 d (.agg [I J 0,I J 0,Y [],Y [],I J 0,aa.ar,I J 0,I J 0,I J 0,I J 0,I J 0])) λc=>j (an P c 45 d) λr=>D (r,c)) (j (cB P 41 ag aw) λe=>j (an P a 45 e) λh=>a7 a (aV P a 45 d h) λc=>j (an P c 45 d) λr=>D (r,c))
def vK(N:Nat){ag aw:aa}{H:ad}{r:aa×ad}(h:oU (aC P ay) ag aw H=D r):aC P ay 41 [ag,aw] H=D r:=cO N (S:=λG=>oU G ag aw H) Tryd.func41 (λ_=>by delta oU;kernel_rfl) h
def sy(G:az)(ag aw:aa)(H:ad):O:=bS H (dS (H).next ag) λe c=>j (aI P 45 e 0) λo=>j (an P c 3 o) λbo=>aH c (G 47 [bo] c) λp a=>j (aq P .lss 3 U p aw) λq=>aW (D q) (j (an P a 45 e) λh=>aH a (G 16 [h] a) λi d=>j (aq P .add 9 X (Y [40]) i) λk=>j (aq P .add 9 X k (Y [41])) λl=>D (l,d)) (j (an P a 45 e) λm=>aH a (G 16 [m] a) λn d=>D (n,d))
def JI(N:Nat){ag aw:aa}{H:ad}{r:aa×ad}(h:sy (aC P ay) ag aw H=D r):aC P ay 44 [ag,aw] H=D r:=cO N (S:=λG=>sy G ag aw H) Tryd.func44 (λ_=>by delta sy;kernel_rfl) h
def nr(G:az)(N:Nat)(d:aa)(H:ad):O:=aH H (G 59 [d,Y [44,32]] H) λc a=>D (c,a)
def KY(G:az)(N:Nat):∀ae H,bp P G N (ak (ak (ak (bs Tryd.f45)))) (bk Tryd.f45) [] (bk Tryd.f45) ae H=nr G N (ae 3) H:=by
 refine bL (aJ _) λae H=> ?_
 delta nr;kernel_rfl
def oV(G:az)(N:Nat)(m:aa->aa->aa->aa->ad->O)(i bo:aa)(l c:aa)(H:ad):O:=j (aq P .lss 3 U c l) λw=>aW (D w) (j (cB P 41 bo c) λo=>j (an P H 45 o) λp=>cf H [I J 0,I J 0,Y [],Y [],I J 0,aa.ar,I J 0,I J 0,I J 0,I J 0,I J 0] λk d=>a7 d (aV P d 45 k p) λa=>j (an P a 45 k) λq=>aH a (G 16 [q] a) λs e=>bS e (bV P (e).next 50 1 [(0,s)]) λu h=>aH h (cQ P h [50,50] i u) λbx n=>j (aq P .add 3 X c (I J 1)) λv=>m bx bo l v n) (nr G N i H)
def k2(G:az)(N:Nat):Nat->aa->aa->aa->aa->ad->O
 |0,_,_,_,_,_=>Z
 |n+1,a,bo,c,d,H=>oV G N (k2 G N n) a bo c d H
def KX(G:az)(N:Nat)(c:aa->aa->aa->aa->ad->O):∀ae H,bp P G N (a6 (a6 (ak (a6 (ak (ak (bs Tryd.f45))))))) (λae H=>c (ae 3) (ae 6) (ae 7) (ae 8) H) [(0,(λae H=>nr G N (ae 3) H))] (bk Tryd.f45) ae H=oV G N c (ae 3) (ae 6) (ae 7) (ae 8) H:=by
 refine bL (aJ _) λae H=> ?_
 delta oV;generalize nr G N=a;revert a;refine id ?_;intro a;kernel_rfl
def sz(G:az)(N:Nat)(ag:aa)(H:ad):O:=bg P .len [41] [ag] H λa=>k2 G N N aa.ar ag a (I J 0) H
def JJ(N:Nat){ag:aa}{H:ad}{r:aa×ad}(h:sz (aC P ay) N ag H=D r):aC P ay 45 [ag] H=D r:=cO N (S:=λG=>sz G N ag H) Tryd.func45 (λG=>dN ((aP ah ((aP ah ((aP ah (KY G N) ((aP ah ((dc ah ((ei (k:=λm ae H=>k2 G N m (ae 3) (ae 6) (ae 7) (ae 8) H) ah (λae H=>ah) (λm=>KX G N (k2 G N m)))))) (aJ _))))) (aJ _))) (aJ _))) (by delta sz;generalize k2 G N N=a;revert a;refine id ?_;intro a;kernel_rfl)) h
def oW(G:az)(H:ad):O:=some ((Y []),H)
def KZ(G:az)(N:Nat):∀ae H,bp P G N (ak (ak (bs Tryd.f46))) (bk Tryd.f46) [] (bk Tryd.f46) ae H=oW G H:=by
 refine bL (aJ _) λae H=> ?_
 delta oW;kernel_rfl
def ns(G:az)(a o:aa)(H:ad):O:=aW (D o) (D ((Y [45]),H)) (j (aq P .eql 3 X a (I J 13)) λp=>aW (D p) (D ((Y [33]),H)) (j (aq P .eql 3 X a (I J 14)) λc=>aW (D c) (D ((Y [43]),H)) (j (aq P .eql 3 X a (I J 16)) λd=>aW (D d) (D ((Y [42]),H)) (j (aq P .eql 3 X a (I J 17)) λe=>aW (D e) (D ((Y [47]),H)) (j (aq P .eql 3 X a (I J 18)) λbx=>aW (D bx) (D ((Y [37]),H)) (j (aq P .eql 3 X a (I J 19)) λh=>aW (D h) (D ((Y [60]),H)) (j (aq P .eql 3 X a (I J 20)) λi=>aW (D i) (D ((Y [60,61]),H)) (j (aq P .eql 3 X a (I J 21)) λk=>aW (D k) (D ((Y [61,61]),H)) (j (aq P .eql 3 X a (I J 22)) λl=>aW (D l) (D ((Y [33,61]),H)) (j (aq P .eql 3 X a (I J 23)) λm=>aW (D m) (D ((Y [38,38]),H)) (j (aq P .eql 3 X a (I J 24)) λn=>aW (D n) (D ((Y [124,124]),H)) (oW G H))))))))))))
def K0(G:az)(N:Nat):∀ae H,bp P G N (ak (a6 (ak (a6 (ak (bs Tryd.f46)))))) (λae H=>oW G H) [(0,(λae H=>oW G H))] (bk Tryd.f46) ae H=ns G (ae 3) (ae 4) H:=by
 refine bL (aJ _) λae H=> ?_
 delta ns;generalize oW G=a;revert a;refine id ?_;intro a;kernel_rfl
def qL(G:az)(ag:aa)(H:ad):O:=j (aq P .eql 3 X ag (I J 12)) λa=>aW (D a) (ns G ag a H) (j (aq P .eql 3 X ag (I J 15)) λbo=>ns G ag bo H)
def vL(N:Nat){ag:aa}{H:ad}{r:aa×ad}(h:qL (aC P ay) ag H=D r):aC P ay 46 [ag] H=D r:=cO N (S:=λG=>qL G ag H) Tryd.func46 (λG=>dN ((aP ah ((aP ah (KZ G N) ((aP ah ((dc ah ((aP ah (K0 G N) (aJ _))))) (aJ _))))) (aJ _))) (by delta qL;generalize ns G=a;revert a;refine id ?_;intro a;kernel_rfl)) h
def iI(G:az)(H:ad):O:=some ((I J 7),H)
def K1(G:az)(N:Nat):∀ae H,bp P G N (ak (ak (bs Tryd.f47))) (bk Tryd.f47) [] (bk Tryd.f47) ae H=iI G H:=by
 refine bL (aJ _) λae H=> ?_
 delta iI;kernel_rfl
def oY(G:az)(a:aa)(H:ad):O:=aW (D a) (D ((I J 6),H)) (iI G H)
def K5(G:az)(N:Nat):∀ae H,bp P G N (ak (ak (ak (ak (ak (ak (ak (ak (ak (ak (ak (a6 (ak (a6 (ak (bs Tryd.f47)))))))))))))))) (λae H=>iI G H) [(0,(λae H=>iI G H))] (bk Tryd.f47) ae H=oY G (ae 20) H:=by
 refine bL (aJ _) λae H=> ?_
 delta oY;generalize iI G=a;revert a;refine id ?_;intro a;kernel_rfl
def nt(G:az)(c bx:aa)(H:ad):O:=aW (D bx) (D ((I J 5),H)) (j (aq P .eql 3 X c (I J 12)) λa=>aW (D a) (oY G a H) (j (aq P .eql 3 X c (I J 13)) λd=>oY G d H))
def K4(G:az)(N:Nat):∀ae H,bp P G N (ak (ak (ak (ak (ak (ak (ak (ak (ak (a6 (ak (a6 (ak (bs Tryd.f47)))))))))))))) (λae H=>iI G H) [(0,(λae H=>iI G H))] (bk Tryd.f47) ae H=nt G (ae 3) (ae 16) H:=by
 refine bL ((dt ah (aJ _) ((aP ah (K5 G N) (aJ _))))) λae H=> ?_
 delta nt;generalize oY G=a;revert a;refine id ?_;intro a;kernel_rfl
def oX(G:az)(a e:aa)(H:ad):O:=aW (D e) (D ((I J 4),H)) (j (aq P .eql 3 X a (I J 16)) λc=>aW (D c) (nt G a c H) (j (aq P .eql 3 X a (I J 17)) λd=>aW (D d) (nt G a d H) (j (aq P .eql 3 X a (I J 18)) λh=>nt G a h H)))
def K3(G:az)(N:Nat):∀ae H,bp P G N (ak (ak (ak (ak (ak (ak (ak (a6 (ak (a6 (ak (bs Tryd.f47)))))))))))) (λae H=>iI G H) [(0,(λae H=>iI G H))] (bk Tryd.f47) ae H=oX G (ae 3) (ae 13) H:=by
 refine bL ((dt ah (aJ _) ((aP ah (K4 G N) (aJ _))))) λae H=> ?_
 delta oX;generalize nt G=a;revert a;refine id ?_;intro a;kernel_rfl
def lV(G:az)(a e:aa)(H:ad):O:=aW (D e) (D ((I J 3),H)) (j (aq P .eql 3 X a (I J 14)) λc=>aW (D c) (oX G a c H) (j (aq P .eql 3 X a (I J 15)) λd=>oX G a d H))
def K2(G:az)(N:Nat):∀ae H,bp P G N (ak (ak (ak (ak (ak (a6 (ak (a6 (ak (bs Tryd.f47)))))))))) (λae H=>iI G H) [(0,(λae H=>iI G H))] (bk Tryd.f47) ae H=lV G (ae 3) (ae 8) H:=by
 refine bL ((dt ah (aJ _) ((aP ah (K3 G N) (aJ _))))) λae H=> ?_
 delta lV;generalize oX G=a;revert a;refine id ?_;intro a;kernel_rfl
def sA(G:az)(ag:aa)(H:ad):O:=j (aq P .eql 3 X ag (I J 24)) λh=>aW (D h) (D ((I J 1),H)) (j (aq P .eql 3 X ag (I J 23)) λi=>aW (D i) (D ((I J 2),H)) (j (aq P .eql 3 X ag (I J 19)) λd=>aW (D d) (lV G ag d H) (j (aq P .eql 3 X ag (I J 20)) λa=>aW (D a) (lV G ag a H) (j (aq P .eql 3 X ag (I J 21)) λc=>aW (D c) (lV G ag c H) (j (aq P .eql 3 X ag (I J 22)) λe=>lV G ag e H)))))
def JL(N:Nat){ag:aa}{H:ad}{r:aa×ad}(h:sA (aC P ay) ag H=D r):aC P ay 47 [ag] H=D r:=cO N (S:=λG=>sA G ag H) Tryd.func47 (λG=>dN ((aP ah ((aP ah (K1 G N) ((aP ah ((dc ah ((aP ah ((dt ah (aJ _) ((aP ah ((dt ah (aJ _) ((aP ah (K2 G N) (aJ _))))) (aJ _))))) (aJ _))))) (aJ _))))) (aJ _))) (by delta sA;generalize lV G=a;revert a;refine id ?_;intro a;kernel_rfl)) h
def sk(G:az)(ag:aa)(H:ad):O:=bS H (dS (H).next ag) λaw a=>j (aI P 40 aw 1) λn=>j (an P a 3 n) λo=>bg P .max [3,3] [o,I J 0] a λbo=>bg P .min [3,3] [bo,I J 3] a λi=>aH a (G 54 [Y [91],i] a) λp e=>aH e (G 54 [Y [93],i] e) λl h=>j (aI P 40 aw 0) λc=>j (an P h 9 c) λd=>j (aq P .add 9 U p d) λk=>j (aq P .add 9 U k l) λm=>bif ((bh (an P a 9 c) d&&(bh (an P e 9 c) d&&bh (an P h 9 c) d))&&X)then(D (m,h))else Z
def Js(N:Nat){ag:aa}{H:ad}{r:aa×ad}(h:sk (aC P ay) ag H=D r):aC P ay 20 [ag] H=D r:=cO N (S:=λG=>sk G ag H) Tryd.func20 (λ_=>by delta sk;kernel_rfl) h
def lQ(G:az)(aw A:aa)(H:ad):O:=j (aI P 45 aw 0) λB=>j (an P H 3 B) λE=>aH H (G 46 [E] H) λl a=>j (aq P .neq 9 X l (Y [])) λF=>aW (D F) (j (aI P 45 aw 0) λn=>j (an P a 3 n) λo=>aH a (G 47 [o] a) λk c=>j (an P c 45 A) λp=>aH c (G 44 [p,k] c) λq d=>j (aI P 45 aw 4) λe=>j (an P d 41 e) λh=>aH d (G 41 [h,I J 1] d) λw i=>j (aq P .add 3 X k (I J 1)) λx=>aH i (G 44 [w,x] i) λy m=>j (aq P .add 9 X q (Y [32])) λs=>j (aq P .add 9 U s l) λu=>j (aq P .add 9 X u (Y [32])) λv=>j (aq P .add 9 U v y) λz=>bif ((bh (an P c 41 e) h&&(bh (an P d 41 e) h&&X))&&X)then(D (z,m))else Z) (D ((Y []),a))
def Kw(G:az)(N:Nat):∀ae H,bp P G N (ak (ak (ak (bs Tryd.f16)))) (bk Tryd.f16) [] (bk Tryd.f16) ae H=lQ G (ae 1) (ae 3) H:=by
 refine bL (aJ _) λae H=> ?_
 delta lQ;kernel_rfl
def kW(G:az)(aw c h:aa)(H:ad):O:=aW (D h) (j (aI P 45 aw 0) λi=>j (an P H 3 i) λk=>aH H (G 46 [k] H) λl a=>j (an P a 45 c) λd=>aH a (G 44 [d,I J 6] a) λm e=>j (aq P .add 9 U l m) λn=>bif ((bh (an P H 45 c) d&&(bh (an P a 45 c) d&&X))&&X)then(D (n,e))else Z) (lQ G aw c H)
def Kx(G:az)(N:Nat):∀ae H,bp P G N (ak (ak (ak (ak (ak (ak (ak (ak (ak (ak (ak (ak (ak (ak (ak (ak (ak (ak (ak (ak (ak (ak (ak (a6 (ak (a6 (ak (ak (bs Tryd.f16))))))))))))))))))))))))))))) (λae H=>lQ G (ae 1) (ae 3) H) [(0,(λae H=>lQ G (ae 1) (ae 3) H))] (bk Tryd.f16) ae H=kW G (ae 1) (ae 3) (ae 86) H:=by
 refine bL (aJ _) λae H=> ?_
 delta kW;generalize lQ G=a;revert a;refine id ?_;intro a;kernel_rfl
def qH(G:az)(ag:aa)(H:ad):O:=bS H (dS (H).next ag) λaw i=>j (aI P 45 aw 4) λbo=>j (an P i 41 bo) λaP=>aH i (G 41 [aP,I J 0] i) λa0 v=>cf v [I J 0,I J 0,Y [],Y [],I J 0,aa.ar,I J 0,I J 0,I J 0,I J 0,I J 0] λe s=>a7 s (aV P s 45 e a0) λa=>j (aI P 45 aw 0) λa8=>j (an P a 3 a8) λd=>j (aq P .eql 3 X d (I J 1)) λx=>aW (D x) (j (aI P 45 aw 1) λy=>j (an P a 3 y) λz=>aH a (G 42 [z] a) λA c=>D (A,c)) (j (aq P .eql 3 X d (I J 2)) λB=>aW (D B) (j (aI P 45 aw 1) λE=>j (an P a 3 E) λF=>j (aq P .neq 3 X F (I J 0)) λK=>aH a (G 43 [K] a) λL c=>D (L,c)) (j (aq P .eql 3 X d (I J 3)) λM=>aW (D M) (j (aI P 45 aw 3) λN=>j (an P a 40 N) λQ=>aH a (G 20 [Q] a) λR c=>j (aq P .add 9 X (Y [110,117,108,108,32]) R) λS=>D (S,c)) (j (aq P .eql 3 X d (I J 4)) λT=>aW (D T) (j (aI P 45 aw 2) λV=>j (an P a 9 V) λW=>D (W,a)) (j (aq P .eql 3 X d (I J 5)) λab=>aW (D ab) (j (an P a 45 e) λae=>aH a (G 44 [ae,I J 7] a) λaf c=>j (aq P .add 9 X af (Y [46])) λah=>j (aI P 45 aw 2) λk=>j (an P c 9 k) λl=>j (aq P .add 9 U ah l) λai=>bif ((bh (an P a 9 k) l&&bh (an P c 9 k) l)&&X)then(D (ai,c))else Z) (j (aq P .eql 3 X d (I J 6)) λaj=>aW (D aj) (j (an P a 45 e) λak=>aH a (G 44 [ak,I J 7] a) λal c=>j (aI P 45 aw 4) λm=>j (an P c 41 m) λn=>aH c (G 41 [n,I J 1] c) λao h=>aH h (G 16 [ao] h) λap w=>j (aq P .add 9 X al (Y [91])) λam=>j (aq P .add 9 U am ap) λau=>j (aq P .add 9 X au (Y [93])) λav=>bif ((bh (an P a 41 m) n&&(bh (an P c 41 m) n&&X))&&X)then(D (av,w))else Z) (j (aq P .eql 3 X d (I J 7)) λax=>aW (D ax) (j (aI P 45 aw 4) λaB=>j (an P a 41 aB) λaC=>aH a (G 45 [aC] a) λaD c=>j (aI P 45 aw 2) λo=>j (an P c 9 o) λp=>j (aq P .add 9 X p (Y [40])) λay=>j (aq P .add 9 U ay aD) λaE=>j (aq P .add 9 X aE (Y [41])) λaF=>bif ((bh (an P a 9 o) p&&bh (an P c 9 o) p)&&X)then(D (aF,c))else Z) (j (aq P .eql 3 X d (I J 8)) λaG=>aW (D aG) (j (aI P 45 aw 3) λaJ=>j (an P a 40 aJ) λaK=>aH a (G 20 [aK] a) λaL c=>j (aq P .add 9 X (Y [110,101,119,32]) aL) λaM=>D (aM,c)) (j (aq P .eql 3 X d (I J 9)) λaN=>aW (D aN) (j (aI P 45 aw 3) λaO=>j (an P a 40 aO) λaQ=>aH a (G 20 [aQ] a) λaR c=>j (an P c 45 e) λq=>aH c (G 16 [q] c) λaU h=>j (aq P .add 9 X (Y [110,101,119,32,91]) aR) λaS=>j (aq P .add 9 X aS (Y [93,40])) λaT=>j (aq P .add 9 U aT aU) λaX=>j (aq P .add 9 X aX (Y [41])) λaY=>bif ((bh (an P a 45 e) q&&(bh (an P c 45 e) q&&X))&&X)then(D (aY,h))else Z) (j (aq P .eql 3 X d (I J 10)) λaZ=>aW (D aZ) (j (an P a 45 e) λa1=>aH a (G 16 [a1] a) λa2 c=>j (aq P .add 9 X (Y [108,101,110,40]) a2) λa3=>j (aq P .add 9 X a3 (Y [41])) λa4=>D (a4,c)) (j (aq P .eql 3 X d (I J 11)) λa5=>aW (D a5) (D ((Y [114,101,97,100,40,41]),a)) (j (aq P .eql 3 X d (I J 12)) λu=>aW (D u) (kW G aw e u a) (j (aq P .eql 3 X d (I J 13)) λa6=>kW G aw e a6 a))))))))))))
def CX(N:Nat){ag:aa}{H:ad}{r:aa×ad}(h:qH (aC P ay) ag H=D r):aC P ay 16 [ag] H=D r:=cO N (S:=λG=>qH G ag H) Tryd.func16 (λG=>dN ((aP ah ((aP ah ((aP ah (Kw G N) ((aP ah ((dc ah ((aP ah ((dt ah (aJ _) ((aP ah ((dt ah (aJ _) ((aP ah ((dt ah (aJ _) ((aP ah ((dt ah (aJ _) ((aP ah ((dt ah (aJ _) ((aP ah ((dt ah (aJ _) ((aP ah ((dt ah (aJ _) ((aP ah ((dt ah (aJ _) ((aP ah ((dt ah (aJ _) ((aP ah ((dt ah (aJ _) ((aP ah ((dt ah (aJ _) ((aP ah (Kx G N) (aJ _))))) (aJ _))))) (aJ _))))) (aJ _))))) (aJ _))))) (aJ _))))) (aJ _))))) (aJ _))))) (aJ _))))) (aJ _))))) (aJ _))))) (aJ _))))) (aJ _))))) (aJ _))) (aJ _))) (by delta qH;generalize kW G=a;revert a;refine id ?_;intro a;kernel_rfl)) h
end
end
def BG{H:ad}{k:Int}:W (aC P ay 47 [I J k] H) λv H'=>v= I J (c6 k)/\H'=H:=by
 refine cz (λ_=>JL 0) ?_;unfold sA lV oX nt oY iI;unfold c6;have i:∀m:Int,k=m->(k==m)=true:=λm h=>by simpa using h
 have cn:∀m:Int,k≠m->(k==m)=false:=λm h=>by simpa using h
 by_cases a:k=24
 ·simp-implicitDefEqProofs(disch:=try exact al)only[bg,br,c5,i _ a];refine⟨_,_,rfl,?_,rfl⟩;rw[if_pos a];rfl
 by_cases c:k=23
 ·simp-implicitDefEqProofs(disch:=try exact al)only[bg,br,c5,cn _ a,i _ c];refine⟨_,_,rfl,?_,rfl⟩;rw[if_neg a,if_pos c];rfl
 by_cases l:19<=k/\k<=22
 ·have:k=19\/k=20\/k=21\/k=22:=af;rcases this with rfl|rfl|rfl|rfl<;>exact⟨_,_,rfl,rfl,rfl⟩
 by_cases e:k=14\/k=15
 ·rcases e with rfl|rfl<;>exact⟨_,_,rfl,rfl,rfl⟩
 by_cases j:16<=k/\k<=18
 ·have:k=16\/k=17\/k=18:=af;rcases this with rfl|rfl|rfl<;>exact⟨_,_,rfl,rfl,rfl⟩
 by_cases d:k=12\/k=13
 ·rcases d with rfl|rfl<;>exact⟨_,_,rfl,rfl,rfl⟩
 ·simp-implicitDefEqProofs(disch:=try exact al)only[bg,br,c5,cn 24 af,cn 23 af,cn 19 af,cn 20 af,cn 21 af,cn 22 af,cn 14 af,cn 15 af,cn 16 af,cn 17 af,cn 18 af,cn 12 af,cn 13 af];refine⟨_,_,rfl,?_,rfl⟩;rw[if_neg a,if_neg c,if_neg l,if_neg e,if_neg j,if_neg d];rfl
def L4{H:ad}{k:Int}(h:14<=k)(ba:k<=24):W (aC P ay 46 [I J k] H) λv H'=>v= Y (gx k)/\H'=H:=by
 refine cz (λ_=>vL 0) ?_;have a:k=14\/k=15\/k=16\/k=17\/k=18\/k=19\/k=20\/k=21\/k=22\/k=23\/k=24:=af;unfold qL ns;rcases a with rfl|rfl|rfl|rfl|rfl|rfl|rfl|rfl|rfl|rfl|rfl<;>exact⟨_,_,rfl,rfl,rfl⟩
def Dc{H:ad}{k:Int}(h:k=12\/k=13):W (aC P ay 46 [I J k] H) λv H'=>v= Y (bif k==12 then[45]else[33])/\H'=H:=by
 refine cz (λ_=>vL 0) ?_;unfold qL ns;rcases h with rfl|rfl<;>exact⟨_,_,rfl,rfl,rfl⟩
def CG(x:aK):∀n,Lib.repeatL x n=(List.replicate n x).flatten
 |0=>rfl
 |n+1=>by rw[Lib.repeatL,CG x n,List.replicate_succ,List.flatten_cons]
def vC{H:ad}{s:aK}{n:Nat}(h:s.length*n<=140737488355328)(a:n<=9223372036854775807):aC P ay 54 [Y s,I J n] H=D (Y (List.replicate n s).flatten,H):=by
 refine lA ?_;show(if 0<=(n:Int)/\(n:Int)<=9223372036854775807/\s.length*(n:Int).toNat<=140737488355328 then D (aa.str (Lib.repeatL s (n:Int).toNat),H)else Z)=_;rw[Int.toNat_natCast,if_pos ⟨af,af,h⟩,CG]
def BM(a b:Int)(H:ad):bZ P H .max [3,3] [I J a,I J b]=D (I J (max a b)):=by
 simp[bZ,rl];omega
def Is(a b:Int)(H:ad):bZ P H .min [3,3] [I J a,I J b]=D (I J (min a b)):=by
 simp[bZ,rm];omega
def type20{H:ad}{x:aK}{z:Int}(i:0<=z)(j:z<=3)(k:x.length<=100):W (aC P ay 20 [.agg [Y x,I J z]] H) λv H'=>v= Y (flat (cX x z))/\aO H H':=by
 refine cz (λ_=>Js 0) ?_;have d:∀l,dS l (.agg [Y x,I J z])=D (.ptr l 0 0,.row U 2 [[Y x,I J z]]):=λl=>hh l _ rfl
 have di:=ad.bC H (.row U 2 [[Y x,I J z]]);obtain⟨n,rfl⟩:∃n:Nat,z=n:=⟨z.toNat,af⟩;have m1:max (n:Int) 0=n:=af;have m2:min (n:Int) 3=n:=af;have e:∀H,aC P ay 54 [Y [91],I J n] H=D (Y (List.replicate n [91]).flatten,H):=λH=>vC (by simp only[List.length_cons,List.length_nil];omega) af
 have h:∀H,aC P ay 54 [Y [93],I J n] H=D (Y (List.replicate n [93]).flatten,H):=λH=>vC (by simp only[List.length_cons,List.length_nil];omega) af
 have m:((List.replicate n ([91]:aK)).flatten).length=n:=by simp
 have o:((List.replicate n ([93]:aK)).flatten).length=n:=by simp
 have a:aq P .add 9 U (Y (List.replicate n [91]).flatten) (Y x)=D (Y ((List.replicate n [91]).flatten++x)):=cW af;have c:aq P .add 9 U (Y ((List.replicate n [91]).flatten++x)) (Y (List.replicate n [93]).flatten)=D (Y ((List.replicate n [91]).flatten++x++(List.replicate n [93]).flatten)):=cW (by rw[List.length_append];omega);rw[sk,uh];simp-implicitDefEqProofs(disch:=try exact al)only[reduceAdd,reduceLeDiff,reduceIte,ax,d,di,bg,BM,Is,m1,m2,e,h,eK,a,c,bj];exact bb.2 ⟨by rw[Int.toNat_natCast];unfold gO;rw[List.append_assoc],aO.push _ _⟩
def rJ{H:ad}{l i n:Nat}{cap:Option Nat}{ro:Bool}{els:List (List aa)}{j:Nat}{z:Int}(p:z=j)(q:j<n){a:bM}{kv:aa}(h:kv.one=X)(e:H.get l=D (.row ro 11 els))(c:els[i+j]? =D (a.cells kv)):
  W (aC P ay 41 [.aA l i n 11 cap,I J z] H) λv H'=>v= .agg (a.cells kv)/\aO H H':=by
 subst p;refine cz (λ_=>vK 0) ?_;have k:¬((n:Int)<=(j:Int)):=af;have m:(j:Int)<(n:Int):=af;have d:(0:Int)<=(j:Int):=af;have o:((j:Int)).toNat=j:=af;have g1:∀b,(H.push b).get l=D (.row ro 11 els):=λb=>(aO.push H b).get e
 simp only[bM.cells]at c ⊢;unfold oU;simp-implicitDefEqProofs(disch:=try exact al)only[reduceAdd,reduceLeDiff,reduceIte,ax,k,m,d,o,g1,c,h,decide_false];exact bb.2 ⟨rfl,aO.push _ _⟩
def b8.pN{H:ad}{ok:Nat->Prop}{ks:List aL}{kv:aa}(h:b8 H ok ks kv)(H':ad):bZ P H' .len [41] [kv]=D (I J ks.length):=by
 rcases h with⟨rfl,e⟩|⟨l,i,cap,ro,els,rfl,_⟩|⟨l,i,cap,rfl,e⟩
 ·rw[e];exact qf
 ·generalize ks.length=n;exact lH
 ·rw[e];exact lH
def AP{H:ad}{ok:Nat->Prop}{ks:List aL}{kv:aa}(h:b8 H ok ks kv)(q:ks.length<=1000000000):W (aC P ay 41 [kv,I J 0] H) λv H'=>∃b c,v= .agg (bM.cells b c)/\c.one=X/\(∀cw d r,ks= .mk cw d::r->b=cw/\b8 H ok d c)/\aO H H':=by
 cases ks with
 |nil=>
  refine cz (λ_=>vK 0) ?_;have o:∀H',bZ P H' .len [41] [kv]=D (I J 0):=λH'=>h.pN H'
  have m:(0:Int)<=0:=af;unfold oU;simp-implicitDefEqProofs(disch:=try exact al)only[reduceAdd,reduceLeDiff,reduceIte,ax,o,m,decide_true];exact bb.2 ⟨{kind:=0,pos:=0},.ar,rfl,rfl,λ_ _ _ h=>(by cases h),aO.push _ _⟩
 |cons e r=>
  obtain⟨a,es⟩:=e;obtain⟨l,i,cap,ro,els,c,rfl,g1,aY,k⟩:=h.iX (n:=r.length+1) (by simp) (j:=0) rfl;refine(rJ (j:=0) rfl af k.eb g1 aY).mono ?_;rintro v H' ⟨rfl,p⟩;exact⟨a,c,rfl,k.eb,λcw d r h=>by cases h;exact⟨rfl,k⟩,p⟩
def ra(e:aL):Prop:=∀(d m:Nat),cm d m e->cF e<=1000000000->∀(a:bM) (ks:List aL),e= .mk a ks->∀(H:ad) (ok:Nat->Prop) (kv:aa),b8 H ok ks kv->e0.hC H->W (aC P ay 16 [.agg (a.cells kv)] H) λr H'=>r= Y (flat (bn e))/\aO H H'
def MW{H:ad}{a:bM}{ks:List aL}{kv:aa}{m:Nat}(p:kv.one=X)(q:∀H',aO H H'->W (aC P ay 16 [.agg (a.cells kv)] H') λr j=>r= Y (flat (bn (.mk a ks)))/\aO H' j)(s:(flat (bn (.mk a ks))).length<=1000000000):
  W (aC P ay 44 [.agg (a.cells kv),I J m] H) λr H'=>r= Y (flat (ck m (.mk a ks)))/\aO H H':=by
 refine cz (λ_=>JI 0) ?_;have i:∀l,dS l (.agg (a.cells kv))=D (.ptr l 0 0,.row U 11 [a.cells kv]):=λl=>hh l _ (by simp only[bM.cells,List.all_cons,List.all_nil,gJ,hq,p,Bool.and_self])
 have pp:=aO.push H (.row U 11 [a.cells kv]);have di:=ad.bC H (.row U 11 [a.cells kv]);have e:=λH' (h:aO H H')=>q H' h
 simp only[bM.cells]at i pp di e ⊢;unfold sy;simp-implicitDefEqProofs(disch:=try exact al)only[reduceAdd,reduceLeDiff,reduceIte,ax,i];refine aN BG ?_;rintro _ _ ⟨rfl,rfl⟩;refine⟨bj _,?_⟩;by_cases hm:((c6 a.kind:Nat):Int)<(m:Int)
 ·have d:(aL.mk a ks).cp<m:=by unfold aL.cp aL.kind;simp only;omega
  simp-implicitDefEqProofs(disch:=try exact al)only[bg,br,c5,Nat.reduceAdd,Nat.reduceLeDiff,reduceIte,aa.cells,cE,dz,an,cy,di,hm,decide_true];refine aN (e _ pp) ?_;rintro _ k ⟨rfl,c⟩;refine⟨c.1,?_⟩;have n:aq P .add 9 X (Y [40]) (Y (flat (bn (.mk a ks))))=D (Y (40::flat (bn (.mk a ks)))):=jw _ _ _ _ (by simp only[List.length_cons,List.length_nil];omega);have o:aq P .add 9 X (Y (40::flat (bn (.mk a ks)))) (Y [41])=D (Y (40::flat (bn (.mk a ks))++[41])):=jw _ _ _ _ (by simp only[List.length_cons,List.length_nil];omega);simp only[n,o,dG];exact bb.2 ⟨by rw[vm d,cT,c3];rfl,pp.trans c⟩
 ·have d:¬(aL.mk a ks).cp<m:=by unfold aL.cp aL.kind;simp only;omega
  simp-implicitDefEqProofs(disch:=try exact al)only[bg,br,c5,Nat.reduceAdd,Nat.reduceLeDiff,reduceIte,aa.cells,cE,dz,an,cy,di,hm,decide_false];refine aN (e _ pp) ?_;rintro _ k ⟨rfl,c⟩;refine⟨c.1,?_⟩;exact bb.2 ⟨by rw[r3 d],pp.trans c⟩
def GK:∀(f n:Nat),n<=f->∀(g:Nat) (acc:aK),n<10^(g+1)->iT (g+1) n acc=Lib.decDigits n++acc:=by
 intro f
 induction f with
 |zero=>
  intro n c g acc _;obtain rfl:n=0:=af;rw[iT,Lib.decDigits];rfl
 |succ f e=>
  intro n c g acc a;rw[iT,Lib.decDigits];by_cases h:n<10
  ·rw[dif_pos h,if_pos af,Nat.mod_eq_of_lt h];rfl
  ·rw[dif_neg h,if_neg af];have d:n/10<=f:=af;cases g with
   |zero=>simp at a;omega
   |succ g=>
    rw[e (n/10) d g _ (by rw[Nat.pow_succ]at a;omega)];simp
def hF.leaf{B:Nat}(a:bM):hF B (.mk a []):=by rw[hF,fD];exact⟨Nat.zero_le _,trivial⟩
def hF.one{B:Nat}(c:2<=B)(a:bM){e:aL}(h:hF B e):hF B (.mk a [e]):=by
 rw[hF,fD,fD];exact⟨by simp;omega,h,trivial⟩
def hF.two{B:Nat}(c:2<=B)(a:bM){e f:aL}(h:hF B e)(ba:hF B f):hF B (.mk a [e,f]):=by
 rw[hF,fD,fD,fD];exact⟨by simp;omega,h,ba,trivial⟩
def fD.append{B:Nat}{e:aL}(h:hF B e):∀{l:List aL},fD B l->fD B (l++[e])
 |[],_=>by simp only[List.nil_append];rw[fD,fD];exact⟨h,trivial⟩
 |x::xs,a=>by
  rw[fD]at a;simp only[List.cons_append];rw[fD];exact⟨a.1,fD.append h a.2⟩
def Gm{α β:Type}{x:Option α}{f:α->Option β}{b:β}(h:x.bind f=D b):∃a,x=D a/\f a=D b:=cR.1 h
def A0(T:List Tok)(s:av):left T s<=T.length:=by unfold left;split<;>omega
def eC.same{H:ad}{v:aa}{T:List Tok}(h:eC H v T):bh (D v) v=true:=by
 rcases h with⟨rfl,_⟩|⟨l,i,cap,rfl,_⟩
 ·exact vx
 ·exact kP _ _ _ _ _
def cr.below{H:ad}{ok:Nat->Prop}{e:aL}{v:aa}(h:cr H ok e v):cr H (λl=>ok l/\l<H.next) e v:=cr.aX (λ_ _ _ h g=>⟨⟨h,ad.aR g⟩,g⟩) e v h
def tn.fin{ok:Nat->Prop}{H bJ:ad}{r:Nat}{T:List Tok}{ao:aa}{s s':av}{a:b2}{es:List aL}{b6:aa}{x:Nat}(e:bI H r T ao s)(m:b5 r H bJ)(d:bw bJ r ao s')(i:b8 bJ (λl=>ok l/\l≠x) es b6)(j:H.next<=x)(c:bO):
  tn ok H r T ao (.mk a es [] []) s' (.agg (a.cells b6 .ar .ar)) (bJ.set x c):=by
 have k:=e.rd.lt;have m':=m.cv (.inr j) c;refine⟨m',e.mut m' ?_,lj.2 ⟨b6,.ar,.ar,rfl,i.aX (c9.set _ (by simp) λl h=>h.1),c1.nil _ _,c1.nil _ _⟩⟩;unfold bw at d ⊢;rw[ad.get_set_other af];exact d
def dA.append{H:ad}{ok:Nat->Prop}:∀(es:List bE) (cs:List (List aa)) (e:bE) (c:List aa),dA H ok es cs->cs.length=es.length->d_ H ok e (.agg c)->dA H ok (es++[e]) (cs++[c])
 |[],[],e,c,_,_,h=>by
  simp only[List.nil_append];rw[dA,dA];exact⟨h,trivial⟩
 |[],_::_,e,c,_,a,_=>by simp at a
 |_::_,[],e,c,h,_,_=>by rw[dA]at h;exact h.elim
 |i::es,d::cs,e,c,h,a,he=>by
  rw[dA]at h;simp only[List.cons_append];rw[dA];exact⟨h.1,dA.append es cs e c h.2 (by simpa using a) he⟩
def wv:P.underlying 71=D (.slice 112):=ah
def xV:hf P 112=D 136:=ah
def tM:eF P 112=D (.agg [I J 0,Y [],Y [],I J 0,.ar,.ar,.ar,I J 0,I J 0]):=ah
def FX{H:ad}{L:Nat}{cs:List aa}{cap:Option Nat}{ro:Bool}(a:H.get L=D (.row ro 9 [cs])):cQ P H [71,71] .ar (.aA L 0 1 9 cap)=D (.aA H.next 0 1 9 Z,H.push (.row U 9 [cs])):=by
 simp[cQ,hk,iR,dx,wv,pb,xV,tM,hH,er,a,aa.cells]
def FY{H:ad}{L l n:Nat}{cs:List aa}{els:List (List aa)}{cap:Option Nat}{ro:Bool}(d:H.get L=D (.row ro 9 [cs]))(e:H.get l=D (.row U 9 els))(h:els.length=n)(i:n<=1000000000):cQ P H [71,71] (.aA l 0 n 9 Z) (.aA L 0 1 9 cap)=D (.aA H.next 0 (n+1) 9 Z,(H.set l .dead).push (.row U 9 (els++[cs]))):=by
 have a:(n+1)*136<=140737488355328:=af;have c:n+1<=9223372036854775807:=af;simp[cQ,hk,iR,dx,wv,pb,xV,tM,hH,er,d,e,aa.cells,h,a,c];rw[List.take_of_length_le af]
def Mb(l:Nat)(cs:List aa)(h:cs.length=9)(a:cs.all aa.one=X):bV P l 71 1 [(0,.agg cs)]=D (.aA l 0 1 9 (D 1),.row U 9 [cs]):=by
 simp[bV,wv,pb,tM,aa.cells,ir,h,a,gJ,hq,r1]
def kB(n0:Nat)(H:ad)(l:List bE)(v:aa):Prop:=(v= .ar/\l=[])\/∃L els,v= .aA L 0 l.length 9 Z/\H.get L=D (.row U 9 els)/\n0<=L/\els.length=l.length/\dA H (λk=>n0<=k/\k≠L) l els
def kB.mut{n0 r:Nat}{H H':ad}{l:List bE}{v:aa}(h:kB n0 H l v)(m:b5 r H H')(j:r<n0):kB n0 H' l v:=by
 rcases h with h|⟨L,els,a,c,d,e,i⟩
 ·exact .inl h
 ·exact .inr ⟨L,els,a,m.get c af,d,e,dA.aX (dU.mut m af λ_ h=>h) _ _ i⟩
def kB.Dq{n0:Nat}{H:ad}{l:List bE}{v:aa}(h:kB n0 H l v):c1 H (bf n0) l v:=by
 rcases h with⟨rfl,rfl⟩|⟨L,els,a,c,d,i,e⟩
 ·exact c1.nil _ _
 ·exact .inr (.inl ⟨L,0,Z,U,els,a,d,c,by rw[List.drop_zero];exact dA.aX (dU.kL λ_ h=>h.1) _ _ e⟩)
def kB.app{n0 m:Nat}{H:ad}{l:List bE}{v:aa}(h:kB n0 H l v){e:bE}{cs:List aa}(he:d_ H (bf m) e (.agg cs))(hm:n0<=m)(x:∀L n c,v= .aA L 0 n 9 c->L<m)(z:n0<=H.next)(w:l.length<=1000000000):
  ∃p H',cQ P (H.push (.row U 9 [cs])) [71,71] v (.aA H.next 0 1 9 (D 1))=D (p,H')/\kB n0 H' (l++[e]) p/\cP (n0<= ·) H H'/\H.next+1<=H'.next:=by
 have o:=ad.bC H (.row U 9 [cs]);rcases h with⟨rfl,rfl⟩|⟨L,els,rfl,j,s,i,u⟩
 ·refine⟨_,_,FX o,.inr ⟨_,[cs],rfl,ad.bC _ _,by simp only[ad.bT];omega,rfl,?_⟩,(((aO.push _ _).bt _).mut _),by simp only[ad.bT];omega⟩;rw[List.nil_append,dA,dA];refine⟨d_.aX ⟨λk ro els a g=>⟨⟨by unfold bf at a;omega,?_⟩,((aO.push _ _).bt _).get g⟩,λk ro els a g=>⟨⟨by unfold bf at a;omega,?_⟩,((aO.push _ _).bt _).get g⟩⟩ e _ he,trivial⟩
  all_goals have:=ad.aR g;simp only[ad.bT];omega
 ·have y:=x L _ _ rfl;have A:=ad.aR j;have q:(H.push (.row U 9 [cs])).get L=D (.row U 9 els):=(aO.push _ _).get j;have d:∀k b,H.get k=D b->k≠L->(((H.push (.row U 9 [cs])).set L .dead).push (.row U 9 (els++[cs]))).get k=D b:=λk b g a=>by
   have:=ad.aR g;rw[ad.dp (by simp only[ad.dj,ad.bT];omega),ad.get_set_other af,ad.dp af];exact g
  refine⟨_,_,FY o q i w,.inr ⟨_,els++[cs],by rw[List.length_append];rfl,ad.bC _ _,by simp only[ad.dj,ad.bT];omega,by simp[i],?_⟩,?_,by simp only[ad.dj,ad.bT];omega⟩
  ·refine dA.append _ _ _ _ (dA.aX ⟨λk ro es a g=>⟨⟨a.1,?_⟩,d _ _ g a.2⟩,λk ro es a g=>⟨⟨a.1,?_⟩,d _ _ g a.2⟩⟩ _ _ u) i (d_.aX ⟨λk ro es a g=>⟨⟨by unfold bf at a;omega,?_⟩,d _ _ g (by unfold bf at a;omega)⟩,λk ro es a g=>⟨⟨by unfold bf at a;omega,?_⟩,d _ _ g (by unfold bf at a;omega)⟩⟩ e _ he)
   all_goals have:=ad.aR g;simp only[ad.dj,ad.bT];omega
  ·exact(((aO.push _ _).mut _).cv (.inl s) _).bt _
def df(H:ad)(ok:Nat->Prop)(H':ad)(ok':Nat->Prop):Prop:=∀l b,ok l->H.get l=D b->ok' l/\H'.get l=D b
def df.s{H H':ad}{ok ok':Nat->Prop}(h:df H ok H' ok'):dU H ok H' ok':=⟨λl _ _ a b=>h l _ a b,λl _ _ a b=>h l _ a b⟩
def df.le{H:ad}{ok ok':Nat->Prop}(h:∀l,ok l->ok' l):df H ok H ok':=λl _ a b=>⟨h l a,b⟩
def df.mut{H H':ad}{ok:Nat->Prop}{S:Nat->Prop}(m:cP S H H')(h:∀l,ok l->¬S l):df H ok H' ok:=λl _ a b=>⟨a,m.get b (h l a)⟩
def df.aM{H H':ad}{ok:Nat->Prop}(m:aO H H'):df H ok H' ok:=λ_ _ a b=>⟨a,m.get b⟩
def df.trans{H1 d e:ad}{a b c:Nat->Prop}(h:df H1 a d b)(k:df d b e c):df H1 a e c:=λl x y z=>k l x (h l x y z).1 (h l x y z).2
structure hD(α:Type) where
 esz:Nat
 V:ad->(Nat->Prop)->α->List aa->Prop
 len:∀{H ok a cs},V H ok a cs->cs.length=esz/\cs.all aa.one=true
 aX:∀{H ok H' ok'} {a:α} {cs},df H ok H' ok'->V H ok a cs->V H' ok' a cs
section
variable {α:Type}{K:hD α}{H H':ad}{ok ok':Nat->Prop}
def c0(K:hD α)(ok:Nat->Prop)(H:ad)(l:List α)(v:aa):Prop:=(v= .ar/\l=[])\/∃L els,v= .aA L 0 l.length K.esz Z/\ok L/\H.get L=D (.row U K.esz els)/\els.length=l.length/\∀(i:Nat) (a:α),l[i]? =D a->∃cs,els[i]? =D cs/\K.V H (λk=>ok k/\k≠L) a cs
def dH(K:hD α)(H:ad)(ok:Nat->Prop)(l:List α)(v:aa):Prop:=(v= .ar/\l=[])\/(∃L i cap ro els,v= .aA L i l.length K.esz (Option.map (· +l.length) cap)/\ok L/\H.get L=D (.row ro K.esz els)/\∀(j:Nat) (a:α),l[j]? =D a->∃cs,els[i+j]? =D cs/\K.V H ok a cs)\/∃L i cap,v= .aA L i 0 K.esz cap/\l=[]
def c0.one{l:List α}{v:aa}(h:c0 K ok H l v):v.one=true:=by
 rcases h with⟨rfl,_⟩|⟨L,els,rfl,_⟩<;>rfl
def dH.one{l:List α}{v:aa}(h:dH K H ok l v):v.one=true:=by
 rcases h with⟨rfl,_⟩|⟨L,i,cap,ro,els,rfl,_⟩|⟨L,i,cap,rfl,_⟩<;>rfl
def c0.nil:c0 K ok H [] .ar:= .inl ⟨rfl,rfl⟩
def dH.nil:dH K H ok [] .ar:= .inl ⟨rfl,rfl⟩
def c0.aX{l:List α}{v:aa}(p:df H ok H' ok')(h:c0 K ok H l v):c0 K ok' H' l v:=by
 rcases h with h|⟨L,els,j,d,e,m,n⟩
 ·exact .inl h
 ·refine .inr ⟨L,els,j,(p _ _ d e).1,(p _ _ d e).2,m,λi a o=> ?_⟩;obtain⟨cs,aY,q⟩:=n i a o;exact⟨cs,aY,K.aX (λk b c g=>⟨⟨(p _ _ c.1 g).1,c.2⟩,(p _ _ c.1 g).2⟩) q⟩
def dH.aX{l:List α}{v:aa}(p:df H ok H' ok')(h:dH K H ok l v):dH K H' ok' l v:=by
 rcases h with h|⟨L,i,cap,ro,els,e,c,d,k⟩|h
 ·exact .inl h
 ·refine .inr (.inl ⟨L,i,cap,ro,els,e,(p _ _ c d).1,(p _ _ c d).2,λj a m=> ?_⟩);obtain⟨cs,aY,n⟩:=k j a m;exact⟨cs,aY,K.aX p n⟩
 ·exact .inr (.inr h)
def c0.aA{l:List α}{v:aa}(h:c0 K ok H l v):dH K H ok l v:=by
 rcases h with h|⟨L,els,c,d,e,n,i⟩
 ·exact .inl h
 ·refine .inr (.inl ⟨L,0,Z,U,els,c,d,e,λj a k=> ?_⟩);obtain⟨cs,aY,m⟩:=i j a k;exact⟨cs,by rw[Nat.zero_add];exact aY,K.aX (df.le λ_ h=>h.1) m⟩
structure jT(t e esz:Nat):Prop where
 un:P.underlying t=some (.slice e)
 ts:cl P e=some esz
 f_:∃b,hf P e=some b/\b<=200
 tL:∃z,eF P e=some z/\z.cells.length=esz/\z.cells.all aa.one=true
 pos:0<esz/\esz<=100
def F0{t e esz:Nat}(y:jT t e esz){L:Nat}{cs:List aa}{cap:Option Nat}{ro:Bool}(d:H.get L=D (.row ro esz [cs])):cQ P H [t,t] .ar (.aA L 0 1 esz cap)=D (.aA H.next 0 1 esz Z,H.push (.row U esz [cs])):=by
 obtain⟨b,c,j⟩:=y.f_;obtain⟨z,h,i,_⟩:=y.tL;have a:b<=140737488355328:=af;simp[cQ,hk,iR,dx,y.un,y.ts,c,h,i,y.pos.1,hH,er,d,a]
def F1{t e esz:Nat}(y:jT t e esz){L l n:Nat}{cs:List aa}{els:List (List aa)}{cap:Option Nat}{ro:Bool}(i:H.get L=D (.row ro esz [cs]))(j:H.get l=D (.row U esz els))(k:els.length=n)(p:n<=1000000000):cQ P H [t,t] (.aA l 0 n esz Z) (.aA L 0 1 esz cap)=D (.aA H.next 0 (n+1) esz Z,(H.set l .dead).push (.row U esz (els++[cs]))):=by
 obtain⟨b,h,d⟩:=y.f_;obtain⟨z,m,o,_⟩:=y.tL;have a:(n+1)*b<=140737488355328:=Nat.le_trans (Nat.mul_le_mul_left (n+1) d) af;have c:n+1<=9223372036854775807:=af;simp[cQ,hk,iR,dx,y.un,y.ts,h,m,o,y.pos.1,hH,er,i,j,k,a,c];rw[List.take_of_length_le af]
def qV{t e esz:Nat}(y:jT t e esz)(l:Nat){cs:List aa}(h:cs.length=esz)(d:cs.all aa.one=X):bV P l t 1 [(0,.agg cs)]=D (.aA l 0 1 esz (D 1),.row U esz [cs]):=by
 obtain⟨z,i,j,k⟩:=y.tL;have n:1*esz<=16777216:=by have:=y.pos.2;omega
 have a:esz<=16777216:=by have:=y.pos.2;omega
 have c:(aa.agg cs).cells=cs:=rfl;simp[bV,y.un,y.ts,i,j,ir,h,d,a,c];have m:∀x∈z.cells,x.one=true:=by simpa using k
 rw[decide_eq_true m];rfl
def c0.app{t e:Nat}(y:jT t e K.esz){l:List α}{v:aa}(h:c0 K ok H l v){okE:Nat->Prop}{a:α}{cs:List aa}(he:K.V H okE a cs)(m:∀k b,okE k->H.get k=D b->ok' k/\∀L,v= .aA L 0 l.length K.esz Z->k≠L)(j:∀k b,ok k->H.get k=D b->ok' k)(s:ok' (H.next+1))(G:l.length<=1000000000):
  ∃w H',cQ P (H.push (.row U K.esz [cs])) [t,t] v (.aA H.next 0 1 K.esz (D 1))=D (w,H')/\c0 K ok' H' (l++[a]) w/\H.next+1<=H'.next/\(∀k,k<H.next->(∀L,v= .aA L 0 l.length K.esz Z->k≠L)->H'.get k=H.get k):=by
 have p:=ad.bC H (.row U K.esz [cs]);rcases h with⟨rfl,rfl⟩|⟨L,els,rfl,Q,n,o,B⟩
 ·refine⟨_,_,F0 y p,.inr ⟨_,[cs],rfl,by simpa only[ad.bT]using s,ad.bC _ _,rfl,λi b d=> ?_⟩,by simp only[ad.bT];omega,λk j _=> ?_⟩
  ·rcases i with _|i
   ·cases d;refine⟨cs,rfl,K.aX (λk b j g=> ?_) he⟩;have:=ad.aR g;exact⟨⟨(m k b j g).1,by simp only[ad.bT];omega⟩,((aO.push _ _).bt _).get g⟩
   ·simp at d
  ·rw[ad.dp (by simp only[ad.bT];omega),ad.dp af]
 ·have R:=ad.aR n;have A:=(aO.push H (.row U K.esz [cs])).get n;have u:∀k b,H.get k=D b->k≠L->(((H.push (.row U K.esz [cs])).set L .dead).push (.row U K.esz (els++[cs]))).get k=D b:=λk b g j=>by
   have:=ad.aR g;rw[ad.dp (by simp only[ad.dj,ad.bT];omega),ad.get_set_other af,ad.dp af];exact g
  refine⟨_,_,F1 y p A o G,.inr ⟨_,els++[cs],by rw[List.length_append];rfl,by simpa only[ad.dj,ad.bT]using s,ad.bC _ _,by simp[o],λi b d=> ?_⟩,by simp only[ad.dj,ad.bT];omega,λk j M=> ?_⟩
  ·by_cases F:i<l.length
   ·rw[List.getElem?_append_left F]at d;obtain⟨c,aY,O⟩:=B i b d;refine⟨c,by rw[List.getElem?_append_left af];exact aY,K.aX (λk x q g=> ?_) O⟩;have:=ad.aR g;exact⟨⟨j k x q.1 g,by simp only[ad.dj,ad.bT];omega⟩,u k x g q.2⟩
   ·rw[List.getElem?_append_right af]at d;have E:i-l.length=0:=by
     rcases N:i-l.length with _|z
     ·rfl
     ·rw[N]at d;simp at d
    rw[E]at d;cases d;refine⟨cs,by rw[List.getElem?_append_right af,show i-els.length=0 by omega];rfl,K.aX (λk x j g=> ?_) he⟩;have:=ad.aR g;exact⟨⟨(m k x j g).1,by simp only[ad.dj,ad.bT];omega⟩,u k x g ((m k x j g).2 L rfl)⟩
  ·rw[ad.dp (by simp only[ad.dj,ad.bT];omega),ad.get_set_other (by exactλe=>M L rfl e.symm),ad.dp af]
end
def od:hD aK:=⟨1,λ_ _ s cs=>cs=[Y s],λh=>by rw[h];exact⟨rfl,rfl⟩,λ_ h=>h⟩
def BF:jT 50 9 1:=⟨ah,wq,⟨_,(by kernel_rfl:hf P 9=D 16),cu⟩,⟨_,(by kernel_rfl:eF P 9=D (Y [])),rfl,rfl⟩,cu⟩
def Dt:∀(els:List (List aa)) (l:List aK),els.length=l.length->(∀(i:Nat) (a:aK),l[i]? =D a->els[i]? =D [Y a])->lb els=D l
 |[],[],_,_=>rfl
 |[],_::_,h,_=>by cases h
 |_::_,[],h,_=>by cases h
 |e::els,s::l,j,h=>by
  have c:=h 0 s rfl;simp only[List.getElem?_cons_zero,aU]at c;subst c;rw[lb,Dt els l (by simpa using j) λi a d=>by simpa using h (i+1) a (by simpa using d)];rfl
def vY(l:Nat)(s:aK):bV P l 50 1 [(0,Y s)]=D (.aA l 0 1 1 (D 1),.row U 1 [[Y s]]):=ah
def rI{H:ad}{ok:Nat->Prop}{l:List aK}{v:aa}(h:c0 od ok H l v){sep:aK}(o:l.length<=1000000000)(m:(Lib.join l sep).length<=140737488355328):aC P ay 59 [v,Y sep] H=D (Y (Lib.join l sep),H):=by
 refine lA ?_;rcases h with⟨rfl,rfl⟩|⟨L,els,rfl,_,c,d,e⟩
 ·rfl
 ·have j:er H L 0 l.length 1=D els:=by
   unfold er;rw[c];show(if od.esz=1/\0+l.length<=els.length then D ((els.drop 0).take l.length)else Z)=_;rw[if_pos ⟨rfl,af⟩,List.drop_zero,List.take_of_length_le af]
  have aB:lb els=D l:=Dt els l d λi a k=>by
   obtain⟨cs,aY,n⟩:=e i a k;rw[aY,show cs=[Y a]from n]
  show(match er H L 0 l.length 1 with
   |some es=>(match lb es with
    |some xs=>if xs.length<=140737488355328/\(Lib.join xs sep).length<=140737488355328 then D (aa.str (Lib.join xs sep),H)else Z
    |none=>Z)
   |none=>Z)=_
  rw[j];simp only
  rw[aB];simp only
  rw[if_pos ⟨af,m⟩]
def uL:∀ks:List aL,Lib.join (ks.map λe=>flat (bn e)) [44,32]=flat (eA (c7 ks))
 |[]=>rfl
 |[e]=>by rw[List.map_cons,List.map_nil,Lib.join_one,c7,c7,eA]
 |e::f::r=>by
  have a:=uL (f::r);rw[List.map_cons,Lib.join_cons,List.map_cons,Lib.joinTail,List.map_cons,List.flatten_cons];rw[List.map_cons,Lib.join_cons,Lib.joinTail]at a;have c:c7 (e::f::r)=(e.cp,bn e)::(f.cp,bn f)::c7 r:=by rw[c7,c7]
  have d:c7 (f::r)=(f.cp,bn f)::c7 r:=by rw[c7]
  rw[c,eA,c3,cT,dV,<-d,<-a]
  ·simp only[List.append_assoc];rfl
  ·intro h;cases h
def c0.aM{α:Type}{K:hD α}{H H':ad}{ok:Nat->Prop}{l:List α}{v:aa}(h:c0 K ok H l v)(p:aO H H'):c0 K ok H' l v:=h.aX (df.aM p)
section
variable {N:Nat}{H0:ad}{L i n:Nat}{cap:Option Nat}{ro:Bool}{els:List (List aa)}{ok:Nat->Prop}
def Bx(E:H0.get L=D (.row ro 11 els))(F:e0.hC H0)(ai:n<=1000000000){all:List aL}(ag:(flat (eA (c7 all))).length<=1000000000):∀(es:List aL) (j k:Nat) (done:List aL) (v:aa) (H:ad),all=done++es->done.length=j->(∀e∈es,ra e/\∃d,cm d 0 e)->(∀e∈es,cF e<=1000000000)->dd H0 ok es (els.drop (i+j))->n=j+es.length->es.length<k->aO H0 H->c0 od (λl=>H0.next<=l) H (done.map λe=>flat (bn e)) v->
  W (k2 (aC P ay) N k v (.aA L i n 11 cap) (I J n) (I J j) H) λv H'=>v= Y (flat (eA (c7 all)))/\aO H0 H'
 |_,_,0,_,_,_,_,_,_,_,_,_,x,_,_=>af
 |[],j,k+1,done,v,H,m,B,aB,hw,he,o,x,pp,u=>by
  have w:¬((j:Int)<(n:Int)):=by simp at o;omega
  rw[List.append_nil]at m;subst m;have s:aC P ay 59 [v,Y [44,32]] H=D (Y (flat (eA (c7 all))),H):=by
   rw[<-uL];exact rI u (by rw[List.length_map];simp at o;omega) (by rw[uL];omega)
  simp-implicitDefEqProofs(disch:=try exact al)only[k2,oV,nr,bg,br,c5,w,decide_false,s,eK,bj];exact bb.2 ⟨rfl,pp⟩
 | .mk a ks::es,j,k+1,done,v,H,m,B,aB,hw,he,o,x,pp,u=>by
  simp only[List.length_cons]at o x;have w:(j:Int)<(n:Int):=af;have am:((j:Int)).toNat=j:=af;have ab:(0:Int)<=(j:Int):=af;have av:IntKind.i64.wrap ((j:Int)+1)=((j+1:Nat):Int):=by rw[wrap_i64 af af];omega
  obtain⟨cs,aY,ap,aq⟩:=he.cons;obtain⟨y,au,O⟩:=gQ.1 ap;cases au;obtain⟨aG,d,an⟩:=aB _ (List.mem_cons_self ..);have g1:=pp.get E;have aj:=O.eb;have p:=pp.bt (.row U 11 [a.cells y]);have M:=aG d 0 an (hw _ (List.mem_cons_self ..)) a ks rfl _ ok y (O.aM p) (F.aM p);simp only[bM.cells]at aY p M;simp-implicitDefEqProofs(disch:=try exact al)only[k2,oV,reduceAdd,reduceLeDiff,reduceIte,ax,w,ab,am,decide_true,g1,aY,aj];refine aN M ?_;rintro _ c ⟨rfl,z⟩;refine⟨z.1,?_⟩;have q:=p.trans z;have A:=(u.aM (aO.push H (.row U 11 [a.cells y]))).aM z;have ak:bV P c.next 50 1 [(0,Y (flat (bn (.mk a ks))))]=D (.aA c.next 0 1 1 (D 1),.row U 1 [[Y (flat (bn (.mk a ks)))]]):=vY _ _
  have az:done.length<=1000000000:=af;obtain⟨Q,H',s,R,S,b3⟩:=c0.app (K:=od) (ok':=λl=>H0.next<=l) BF A (okE:=λ_=>False) (a:=flat (bn (.mk a ks))) (cs:=[Y (flat (bn (.mk a ks)))]) rfl (λ_ _ h=>h.elim) (λ_ _ h _=>h) (by have:=q.1;show H0.next<=c.next+1;omega) (by rw[List.length_map];omega);have ao:aO H0 H':=by
   refine⟨by have:=q.1;omega,λl ah=> ?_⟩;have:=q.1;rw[b3 l af λL G ae=> ?_]
   ·exact q.2 l ah
   ·subst ae;rcases A with⟨rfl,_⟩|⟨L',_,rfl,aw,_⟩
    ·cases G
    ·cases G;omega
  have V:cQ P (c.push (.row U 1 [[Y (flat (bn (.mk a ks)))]])) [50,50] v (.aA c.next 0 1 1 (D 1))=D (Q,H'):=s;have T:(c.push (.row U 1 [[Y (flat (bn (.mk a ks)))]])).next<=H'.next:=by rw[ad.bT];exact S
  simp-implicitDefEqProofs(disch:=try exact al)only[bg,br,ak,V,eK,T,c5,av];exact Bx E F ai ag es (j+1) k (done++[.mk a ks]) Q H' (by rw[m,List.append_assoc];rfl) (by rw[List.length_append,B];rfl) (λe h=>aB e (List.mem_cons_of_mem _ h)) (λe h=>hw e (List.mem_cons_of_mem _ h)) (by rw[show i+(j+1)=i+j+1 by omega];exact aq) af af ao (by rw[List.map_append];exact R)
end
def Ij{H:ad}{ok:Nat->Prop}{ks:List aL}{kv:aa}(h:b8 H ok ks kv)(m:e0.hC H)(aB:∀e∈ks,ra e/\∃d,cm d 0 e)(hw:∀e∈ks,cF e<=1000000000)(q:ks.length<=100000000)(o:(flat (eA (c7 ks))).length<=1000000000):W (aC P ay 45 [kv] H) λv H'=>v= Y (flat (eA (c7 ks)))/\aO H H':=by
 refine cz (λ_=>JJ (ks.length+1)) ?_;have k:=λH'=>h.pN H'
 rw[sz];simp-implicitDefEqProofs(disch:=try exact al)only[reduceAdd,reduceLeDiff,reduceIte,ax,k];by_cases c:ks.length=0
 ·obtain rfl:=List.length_eq_zero_iff.1 c;have n:¬((0:Int)<(0:Int)):=af;have j:aC P ay 59 [.ar,Y [44,32]] H=D (Y [],H):=rI (ok:=λ_=>True) (l:=[]) (.inl ⟨rfl,rfl⟩) (Nat.zero_le _) (Nat.zero_le _);simp-implicitDefEqProofs(disch:=try exact al)only[k2,oV,nr,reduceAdd,reduceLeDiff,reduceIte,ax,n,decide_false,j,eK,Int.natCast_zero];exact bb.2 ⟨rfl,.refl _⟩
 ·rcases h with⟨_,a⟩|⟨L,i,cap,ro,els,rfl,_,g1,p⟩|⟨_,_,_,_,a⟩
  ·exact absurd a c
  ·exact Bx (N:=ks.length+1) g1 m af o ks 0 (ks.length+1) [] .ar H rfl rfl aB hw (by rw[Nat.add_zero];exact p) af af (.refl _) (.inl ⟨rfl,rfl⟩)
  ·exact absurd a c
open Classical in
def HN{H:ad}(c:e0.hC H){n:Int}(d:0<=n)(a:n<=9223372036854775807):aC P ay 42 [I J n] H=D (Y (iT 20 n.toNat []),H):=by
 refine lA ?_;show(if-9223372036854775808<=n/\n<=9223372036854775807/\H.get 0=D (.row X 1 jg)then D (aa.str (Lib.itoa n),H)else Z)=_;rw[if_pos ⟨af,a,c.sT⟩];unfold Lib.itoa;rw[if_neg af,GK n.toNat n.toNat (bj _) 19 [] (by have:=Cg;omega),List.append_nil]
def zc{H:ad}(b:Bool):aC P ay 43 [.bool b] H=D (Y (bif b then[116,114,117,101]else[102,97,108,115,101]),H):=by
 refine lA ?_;show D (aa.str (Lib.formatBool b),H)=_;cases b<;>rfl
def bx:∀e:aL,ra e
 | .mk a ks=>by
  have aB:∀e∈ks,ra e:=λe he=>bx e
  intro d m aF hw b0 a7 he H ok kv O aG;cases he;have h:=aF.low (m':=0) (Nat.zero_le _);clear aF;have hlen:=om h;have aU:=O.eb;have aj:∀l,dS l (.agg (a.cells kv))=D (.ptr l 0 0,.row U 11 [a.cells kv]):=λl=>hh l _ (by simp only[bM.cells,List.all_cons,List.all_nil,gJ,hq,aU,Bool.and_self])
  have pp:=aO.push H (.row U 11 [a.cells kv]);have di:=ad.bC H (.row U 11 [a.cells kv]);have ag:∀{S m':Nat} {b:bM} {i:List aL},aL.mk b i∈ks->cm S m' (.mk b i)->cF (.mk b i)<=1000000000/\∀(H':ad) (M:aa),b8 H' ok i M->aO H H'->W (aC P ay 16 [.agg (b.cells M)] H') λr an=>r= Y (flat (bn (.mk b i)))/\aO H' an:=by
   intro S m' b i hm v;have hle:cF (.mk b i)<=b1 ks:=by
    clear aB hlen O hw h aj pp di
    induction ks with
    |nil=>cases hm
    |cons k r aZ=>
     rw[b1];rcases List.mem_cons.1 hm with rfl|hm
     ·omega
     ·have:=aZ hm;omega
   rw[cF]at hw;have aH:cF (.mk b i)<=1000000000:=af;exact⟨aH,λH' M ak aD=>aB _ hm S m' v aH b i rfl H' ok M ak (aG.aM aD)⟩
  have e_:∀{S m':Nat} {b:bM} {i:List aL} (n:Nat) {z:Int},z=n->aL.mk b i∈ks->cm S m' (.mk b i)->∀(H':ad) (M:aa),b8 H' ok i M->aO H H'->W (aC P ay 44 [.agg (b.cells M),I J z] H') λr an=>r= Y (flat (ck n (.mk b i)))/\aO H' an:=by
   intro S m' b i n z aX hm v H' M ak aD;subst aX;obtain⟨B,q⟩:=ag hm v;have:=om v;exact MW ak.eb (λQ T=>q Q M (ak.aM T) (aD.trans T)) af
  have aR:ks.length<=1000000000:=by have:=p8 ks;rw[cF]at hw;omega
  refine cz (λ_=>CX 0) ?_;have az:=AP (O.aM pp) aR;simp only[bM.cells]at aj pp di az ⊢;rw[qH];simp-implicitDefEqProofs(disch:=try exact al)only[reduceAdd,reduceLeDiff,reduceIte,ax,aj];refine aN az ?_;rintro _ Q ⟨b,G,rfl,bH,av,T⟩;refine⟨T.1,?_⟩;have V:=T.bt (.row U 11 [b.cells G]);have u:=pp.trans V;have s:=V.get di;have g3:=ad.bC Q (.row U 11 [b.cells G]);have N:∀cw i r,ks= .mk cw i::r->b=cw/\b8 (Q.push (.row U 11 [b.cells G])) ok i G:=λcw i r h=>⟨(av cw i r h).1,(av cw i r h).2.aM V⟩
  simp only[bM.cells]at V u s g3 N;clear az av;simp-implicitDefEqProofs(disch:=try exact al)only[reduceAdd,reduceLeDiff,reduceIte,ax,bH,s];have am:=O.aM u;have aw:=aG.aM u;generalize Q.next=a9 at g3 ⊢
  generalize Q.push (.row U 11 [[I J b.kind,I J b.n,Y b.name,Y b.cc,I J b.c4,G,I J b.pos,I J b.sU,I J b.D1,I J b.pa,I J b.ref]])=ae at V u s g3 N am aw ⊢;clear T V aj pp di;generalize H.next=a8 at s ⊢
  clear Q;cases h with
  |par B q y=>omega
  | @int d m n p B q y=>
   have w:=HN aw q y;simp-implicitDefEqProofs(disch:=try exact al)only[reduceAdd,reduceLeDiff,reduceIte,ax,Int.reduceBEq,s,w,eK];refine bb.2 ⟨?_,u⟩;rw[eJ];show _=aa.str (flat [.t ⟨2,[],n,0⟩]);simp[flat,bN.sX,sY]
  | @bool d m n p B q=>
   have w:aC P ay 43 [.bool X] ae=D (Y [116,114,117,101],ae):=zc X;have A:aC P ay 43 [.bool U] ae=D (Y [102,97,108,115,101],ae):=zc U;rcases q with rfl|rfl
   ·simp-implicitDefEqProofs(disch:=try exact al)only[reduceAdd,reduceLeDiff,reduceIte,ax,Int.reduceBEq,Int.reduceBNe,s,w,A,eK];exact bb.2 ⟨by rw[eJ];rfl,u⟩
   ·simp-implicitDefEqProofs(disch:=try exact al)only[reduceAdd,reduceLeDiff,reduceIte,ax,Int.reduceBEq,Int.reduceBNe,s,w,A,eK];exact bb.2 ⟨by rw[eJ];rfl,u⟩
  | @null d m x z p B q=>
   simp-implicitDefEqProofs(disch:=try exact al)only[reduceAdd,reduceLeDiff,reduceIte,ax,Int.reduceBEq,s];refine aN (type20 q.1 q.2.1 (by have:=gq q;omega)) ?_;rintro _ K ⟨rfl,o⟩;refine⟨o.1,?_⟩;have a2:=iD x z;have:=gq q;have:=q.2.1;have w:aq P .add 9 X (Y [110,117,108,108,32]) (Y (flat (cX x z)))=D (Y ([110,117,108,108,32]++flat (cX x z))):=cW (by simp only[List.length_cons,List.length_nil];omega);simp only[w,dG];exact bb.2 ⟨by rw[eJ];rfl,u.trans o⟩
  | @var d m x p B q=>
   simp-implicitDefEqProofs(disch:=try exact al)only[reduceAdd,reduceLeDiff,reduceIte,ax,Int.reduceBEq,s];exact bb.2 ⟨by rw[eJ];show _=aa.str (flat [cg x]);rw[iA,cY,List.append_nil],u⟩
  | @field d m x p e B q y=>
   obtain⟨cw,i⟩:=e;obtain⟨rfl,E⟩:=N _ _ _ rfl;rw[qq,cV]at hlen;have v:=e_ 7 rfl (by simp) y _ G E u;simp only[bM.cells]at v;simp-implicitDefEqProofs(disch:=try exact al)only[reduceAdd,reduceLeDiff,reduceIte,ax,Int.reduceBEq,s,g3];refine aN v ?_;rintro _ K ⟨rfl,o⟩;refine⟨o.1,?_⟩;have L:=o.get s;have:=eO q;have w:aq P .add 9 X (Y (flat (ck 7 (.mk b i)))) (Y [46])=D (Y (flat (ck 7 (.mk b i))++[46])):=cW (by simp only[List.length_cons,List.length_nil];omega);have A:aq P .add 9 U (Y (flat (ck 7 (.mk b i))++[46])) (Y x)=D (Y (flat (ck 7 (.mk b i))++[46]++x)):=cW (by simp only[List.length_append,List.length_cons,List.length_nil];omega)
   simp-implicitDefEqProofs(disch:=try exact al)only[reduceAdd,reduceLeDiff,reduceIte,ax,s,L,w,A];exact bb.2 ⟨by rw[qq,c3,cT,iA,cY];simp,u.trans o⟩
  | @item d m p e f B q y=>
   obtain⟨cw,i⟩:=e;obtain⟨c,cs⟩:=f;obtain⟨rfl,E⟩:=N _ _ _ rfl;obtain⟨l',aY,aJ,a0,aK,kw,rfl,au,aE,ah⟩:=am.iX (n:=2) rfl (j:=1) rfl;rw[qs,cV,c_,cV]at hlen;have v:=e_ 7 rfl (by simp) q _ G E u;simp only[bM.cells]at v;simp-implicitDefEqProofs(disch:=try exact al)only[reduceAdd,reduceLeDiff,reduceIte,ax,Int.reduceBEq,s,g3];refine aN v ?_;rintro _ K ⟨rfl,o⟩;refine⟨o.1,?_⟩;have L:=o.get s;simp-implicitDefEqProofs(disch:=try exact al)only[reduceAdd,reduceLeDiff,reduceIte,ax,L];refine aN (rJ (j:=1) rfl af ah.eb (o.get au) aE) ?_;rintro _ ao ⟨rfl,F⟩;refine⟨F.1,?_⟩;have aW:=(ag (by simp) y).2 ao kw (ah.aM (o.trans F)) ((u.trans o).trans F)
   refine aN aW ?_;rintro _ aI ⟨rfl,ai⟩;refine⟨ai.1,?_⟩;have w:aq P .add 9 X (Y (flat (ck 7 (.mk b i)))) (Y [91])=D (Y (flat (ck 7 (.mk b i))++[91])):=cW (by simp only[List.length_cons,List.length_nil];omega);have A:aq P .add 9 U (Y (flat (ck 7 (.mk b i))++[91])) (Y (flat (bn (.mk c cs))))=D (Y (flat (ck 7 (.mk b i))++[91]++flat (bn (.mk c cs)))):=cW (by simp only[List.length_append,List.length_cons,List.length_nil];omega);have R:aq P .add 9 X (Y (flat (ck 7 (.mk b i))++[91]++flat (bn (.mk c cs)))) (Y [93])=D (Y (flat (ck 7 (.mk b i))++[91]++flat (bn (.mk c cs))++[93])):=cW (by simp only[List.length_append,List.length_cons,List.length_nil];omega)
   simp-implicitDefEqProofs(disch:=try exact al)only[reduceAdd,reduceLeDiff,reduceIte,ax,s,L,w,A,R];exact bb.2 ⟨by rw[qs,c3,cT,c3,cT,cY];simp,((u.trans o).trans F).trans ai⟩
  | @call d m x p l B q y=>
   have:=eO q;rw[cF]at hw hlen;simp only at hw hlen;rw[qp,lG,c_,cV]at hlen;have a5:=p8 ks;have aS:(flat (eA (c7 ks))).length<=1000000000:=af;have v:=Ij am aw (λe he=>⟨aB e he,_,y e he⟩) (λe he=>by
    obtain⟨c,cs⟩:=e;exact(ag he (y _ he)).1) af aS
   simp-implicitDefEqProofs(disch:=try exact al)only[reduceAdd,reduceLeDiff,reduceIte,ax,Int.reduceBEq,s];refine aN v ?_;rintro _ K ⟨rfl,o⟩;refine⟨o.1,?_⟩;have L:=o.get s;have w:aq P .add 9 X (Y x) (Y [40])=D (Y (x++[40])):=cW (by simp only[List.length_cons,List.length_nil];omega);have A:aq P .add 9 U (Y (x++[40])) (Y (flat (eA (c7 ks))))=D (Y (x++[40]++flat (eA (c7 ks)))):=cW (by simp only[List.length_append,List.length_cons,List.length_nil];omega);have R:aq P .add 9 X (Y (x++[40]++flat (eA (c7 ks)))) (Y [41])=D (Y (x++[40]++flat (eA (c7 ks))++[41])):=cW (by simp only[List.length_append,List.length_cons,List.length_nil];omega)
   simp-implicitDefEqProofs(disch:=try exact al)only[reduceAdd,reduceLeDiff,reduceIte,ax,s,L,w,A,R];exact bb.2 ⟨by rw[qp,iA,cT,c3,cT,cY];simp,u.trans o⟩
  | @new d m x p B q=>
   have a6:=eO q;simp-implicitDefEqProofs(disch:=try exact al)only[reduceAdd,reduceLeDiff,reduceIte,ax,Int.reduceBEq,s];refine aN (type20 (x:=x) (z:=0) (Int.le_refl 0) af af) ?_;rintro _ K ⟨rfl,o⟩;refine⟨o.1,?_⟩;have aV:flat (cX x 0)=x:=by rw[uh];simp[gO]
   rw[aV];have w:aq P .add 9 X (Y [110,101,119,32]) (Y x)=D (Y ([110,101,119,32]++x)):=cW (by simp only[List.length_cons,List.length_nil];omega);simp only[w,dG];exact bb.2 ⟨by rw[eJ];show _=aa.str (flat [wd [110,101,119],cq,cg x]);rw[gF,dV,iA,cY];simp,u.trans o⟩
  | @make d m x z p e B q y=>
   obtain⟨cw,i⟩:=e;obtain⟨rfl,E⟩:=N _ _ _ rfl;rw[qu,hn,ew,c_,cV,c_,c_,cV]at hlen;simp-implicitDefEqProofs(disch:=try exact al)only[reduceAdd,reduceLeDiff,reduceIte,ax,Int.reduceBEq,s];refine aN (type20 q.1 q.2.1 (by have:=gq q;omega)) ?_;rintro _ K ⟨rfl,o⟩;refine⟨o.1,?_⟩;have L:=o.get s;have g4:=o.get g3;have v:=(ag (by simp) y).2 K G (E.aM o) (u.trans o);simp only[bM.cells]at v;simp-implicitDefEqProofs(disch:=try exact al)only[reduceAdd,reduceLeDiff,reduceIte,ax,g4];refine aN v ?_;rintro _ ao ⟨rfl,F⟩;refine⟨F.1,?_⟩;have w:aq P .add 9 X (Y [110,101,119,32,91]) (Y (flat (cX x z)))=D (Y ([110,101,119,32,91]++flat (cX x z))):=cW (by simp only[List.length_cons,List.length_nil];omega)
   have A:aq P .add 9 X (Y ([110,101,119,32,91]++flat (cX x z))) (Y [93,40])=D (Y ([110,101,119,32,91]++flat (cX x z)++[93,40])):=cW (by simp only[List.length_append,List.length_cons,List.length_nil];omega);have R:aq P .add 9 U (Y ([110,101,119,32,91]++flat (cX x z)++[93,40])) (Y (flat (bn (.mk b i))))=D (Y ([110,101,119,32,91]++flat (cX x z)++[93,40]++flat (bn (.mk b i)))):=cW (by simp only[List.length_append,List.length_cons,List.length_nil];omega);have ap:aq P .add 9 X (Y ([110,101,119,32,91]++flat (cX x z)++[93,40]++flat (bn (.mk b i)))) (Y [41])=D (Y ([110,101,119,32,91]++flat (cX x z)++[93,40]++flat (bn (.mk b i))++[41])):=cW (by simp only[List.length_append,List.length_cons,List.length_nil];omega)
   have ab:=qB (a:=b) E.beq;simp only[bM.cells]at ab;rw[w,dG,A,dG,R,dG,ap,dG];simp-implicitDefEqProofs(disch:=try exact al)only[reduceAdd,reduceLeDiff,reduceIte,ax,g3,g4,ab];exact bb.2 ⟨by rw[qu,gF,dV,cT,c3,cT,cT,c3,cT,cY];simp,(u.trans o).trans F⟩
  | @len d m p e B q=>
   obtain⟨cw,i⟩:=e;obtain⟨rfl,E⟩:=N _ _ _ rfl;rw[qt,hn,c_,cV]at hlen;have v:=(ag (by simp) q).2 ae G E u;simp only[bM.cells]at v;simp-implicitDefEqProofs(disch:=try exact al)only[reduceAdd,reduceLeDiff,reduceIte,ax,Int.reduceBEq,s,g3];refine aN v ?_;rintro _ K ⟨rfl,o⟩;refine⟨o.1,?_⟩;have w:aq P .add 9 X (Y [108,101,110,40]) (Y (flat (bn (.mk b i))))=D (Y ([108,101,110,40]++flat (bn (.mk b i)))):=cW (by simp only[List.length_cons,List.length_nil];omega);have A:aq P .add 9 X (Y ([108,101,110,40]++flat (bn (.mk b i)))) (Y [41])=D (Y ([108,101,110,40]++flat (bn (.mk b i))++[41])):=cW (by simp only[List.length_append,List.length_cons,List.length_nil];omega)
   rw[w,dG,A,dG];exact bb.2 ⟨by rw[qt,gF,cT,c3,cT,cY];simp,u.trans o⟩
  | @read d m p B=>
   simp-implicitDefEqProofs(disch:=try exact al)only[reduceAdd,reduceLeDiff,reduceIte,ax,Int.reduceBEq,s];exact bb.2 ⟨by rw[eJ];rfl,u⟩
  | @sign d m k p e B q y=>
   obtain⟨cw,i⟩:=e;obtain⟨rfl,E⟩:=N _ _ _ rfl;rw[mU q,c_]at hlen;have v:=e_ 6 rfl (by simp) y _ G E u;simp only[bM.cells]at v;have ab:=qB (a:=b) E.beq;simp only[bM.cells]at ab;rcases q with rfl|rfl
   ·simp-implicitDefEqProofs(disch:=try exact al)only[reduceAdd,reduceLeDiff,reduceIte,ax,Int.reduceBEq,s,kW];refine aN (Dc (.inl rfl)) ?_;rintro _ _ ⟨rfl,rfl⟩;refine⟨bj _,?_⟩;simp-implicitDefEqProofs(disch:=try exact al)only[reduceAdd,reduceLeDiff,reduceIte,ax,g3];refine aN v ?_;rintro _ K ⟨rfl,o⟩;refine⟨o.1,?_⟩;have w:aq P .add 9 U (Y (bif (12:Int)==12 then[45]else[33])) (Y (flat (ck 6 (.mk b i))))=D (Y ([45]++flat (ck 6 (.mk b i)))):=cW (t:=9) (a:=[45]) (by simp only[List.length_cons,List.length_nil];omega);simp-implicitDefEqProofs(disch:=try exact al)only[reduceAdd,reduceLeDiff,reduceIte,ax,w,g3,ab]
    exact bb.2 ⟨by rw[mU (.inl rfl),cT];rfl,u.trans o⟩
   ·simp-implicitDefEqProofs(disch:=try exact al)only[reduceAdd,reduceLeDiff,reduceIte,ax,Int.reduceBEq,s,kW];refine aN (Dc (.inr rfl)) ?_;rintro _ _ ⟨rfl,rfl⟩;refine⟨bj _,?_⟩;simp-implicitDefEqProofs(disch:=try exact al)only[reduceAdd,reduceLeDiff,reduceIte,ax,g3];refine aN v ?_;rintro _ K ⟨rfl,o⟩;refine⟨o.1,?_⟩;have w:aq P .add 9 U (Y (bif (13:Int)==12 then[45]else[33])) (Y (flat (ck 6 (.mk b i))))=D (Y ([33]++flat (ck 6 (.mk b i)))):=cW (t:=9) (a:=[33]) (by simp only[List.length_cons,List.length_nil];omega);simp-implicitDefEqProofs(disch:=try exact al)only[reduceAdd,reduceLeDiff,reduceIte,ax,w,g3,ab]
    exact bb.2 ⟨by rw[mU (.inr rfl),cT];rfl,u.trans o⟩
  | @bin d m k p e f B q y aP aQ=>
   obtain⟨cw,i⟩:=e;obtain⟨c,cs⟩:=f;obtain⟨rfl,E⟩:=N _ _ _ rfl;obtain⟨l',aY,aJ,a0,aK,kw,rfl,au,aE,ah⟩:=am.iX (n:=2) rfl (j:=1) rfl;rw[qo q,cV,ew,c_,ew]at hlen;have a4:=u0 q y;have cn:∀m:Int,m<14->(k==m)=false:=λm h=>by simp;omega
   have a1:IntKind.i64.wrap (((c6 k:Nat):Int)+1)=((c6 k+1:Nat):Int):=by have:=u6 k;rw[wrap_i64 af af];omega
   have v:=e_ (c6 k) rfl (by simp) aP _ G E u;simp only[bM.cells]at v;simp-implicitDefEqProofs(disch:=try exact al)only[reduceAdd,reduceLeDiff,reduceIte,ax,s,cn 1 af,cn 2 af,cn 3 af,cn 4 af,cn 5 af,cn 6 af,cn 7 af,cn 8 af,cn 9 af,cn 10 af,cn 11 af,cn 12 af,cn 13 af,kW];unfold lQ;simp-implicitDefEqProofs(disch:=try exact al)only[reduceAdd,reduceLeDiff,reduceIte,ax,s];refine aN (L4 q y) ?_;rintro _ _ ⟨rfl,rfl⟩;refine⟨bj _,?_⟩;have a3:(gx k != [])=true:=by
    have O:k=14\/k=15\/k=16\/k=17\/k=18\/k=19\/k=20\/k=21\/k=22\/k=23\/k=24:=af;rcases O with rfl|rfl|rfl|rfl|rfl|rfl|rfl|rfl|rfl|rfl|rfl<;>rfl
   have aT:aq P .neq 9 X (Y (gx k)) (Y [])=D (.bool X):=by
    have O:k=14\/k=15\/k=16\/k=17\/k=18\/k=19\/k=20\/k=21\/k=22\/k=23\/k=24:=af;rcases O with rfl|rfl|rfl|rfl|rfl|rfl|rfl|rfl|rfl|rfl|rfl<;>rfl
   simp-implicitDefEqProofs(disch:=try exact al)only[bg,br,aT,reduceAdd,reduceLeDiff,reduceIte,ax,s];refine aN BG ?_;rintro _ _ ⟨rfl,rfl⟩;refine⟨bj _,?_⟩;simp-implicitDefEqProofs(disch:=try exact al)only[reduceAdd,reduceLeDiff,reduceIte,ax,g3];refine aN v ?_;rintro _ K ⟨rfl,o⟩;refine⟨o.1,?_⟩;have L:=o.get s;simp-implicitDefEqProofs(disch:=try exact al)only[reduceAdd,reduceLeDiff,reduceIte,ax,L];refine aN (rJ (j:=1) rfl af ah.eb (o.get au) aE) ?_;rintro _ ao ⟨rfl,F⟩;refine⟨F.1,?_⟩;simp-implicitDefEqProofs(disch:=try exact al)only[reduceAdd,reduceLeDiff,reduceIte,ax,a1];refine aN (e_ (c6 k+1) rfl (by simp) aQ _ kw (ah.aM (o.trans F)) ((u.trans o).trans F)) ?_
   rintro _ aI ⟨rfl,ai⟩;refine⟨ai.1,?_⟩;have w:aq P .add 9 X (Y (flat (ck (c6 k) (.mk b i)))) (Y [32])=D (Y (flat (ck (c6 k) (.mk b i))++[32])):=cW (by simp only[List.length_cons,List.length_nil];omega);have A:aq P .add 9 U (Y (flat (ck (c6 k) (.mk b i))++[32])) (Y (gx k))=D (Y (flat (ck (c6 k) (.mk b i))++[32]++gx k)):=cW (by simp only[List.length_append,List.length_cons,List.length_nil];omega);have R:aq P .add 9 X (Y (flat (ck (c6 k) (.mk b i))++[32]++gx k)) (Y [32])=D (Y (flat (ck (c6 k) (.mk b i))++[32]++gx k++[32])):=cW (by simp only[List.length_append,List.length_cons,List.length_nil];omega)
   have ap:aq P .add 9 U (Y (flat (ck (c6 k) (.mk b i))++[32]++gx k++[32])) (Y (flat (ck (c6 k+1) (.mk c cs))))=D (Y (flat (ck (c6 k) (.mk b i))++[32]++gx k++[32]++flat (ck (c6 k+1) (.mk c cs)))):=cW (by simp only[List.length_append,List.length_cons,List.length_nil];omega);rw[w,dG,A,dG,R,dG,ap,dG];simp-implicitDefEqProofs(disch:=try exact al)only[reduceAdd,reduceLeDiff,reduceIte,ax,s,L];exact bb.2 ⟨by rw[qo q,c3,dV,cT,dV];simp,((u.trans o).trans F).trans ai⟩
section
set_option maxRecDepth 100000
noncomputable section
def sH(G:az)(ag aw:aa)(H:ad):O:=aH H (G 80 [ag] H) λn a=>j (bW ag) λe=>j (aI P 79 e 1) λh=>j (an P a 77 h) λi=>aH a (cQ P a [77,9] i aw) λk c=>j (bW ag) λl=>j (aI P 79 l 1) λbx=>a7 c (aV P c 77 bx k) λd=>bg P .len [9] [aw] d λm=>D (.tuple [m,aa.nilIface],d)
def JT(N:Nat){ag aw:aa}{H:ad}{r:aa×ad}(h:sH (aC P ay) ag aw H=D r):aC P ay 57 [ag,aw] H=D r:=cO N (S:=λG=>sH G ag aw H) Tryd.func57 (λ_=>by delta sH;kernel_rfl) h
def sI(G:az)(ag aw:aa)(H:ad):O:=aH H (G 80 [ag] H) λbo a=>j (bW ag) λn=>j (aI P 79 n 1) λh=>j (an P a 77 h) λi=>bS a (bV P (a).next 77 1 [(0,aw)]) λk c=>aH c (cQ P c [77,77] i k) λl d=>j (bW ag) λm=>j (aI P 79 m 1) λbx=>a7 d (aV P d 77 bx l) λe=>D (aa.nilIface,e)
def JU(N:Nat){ag aw:aa}{H:ad}{r:aa×ad}(h:sI (aC P ay) ag aw H=D r):aC P ay 58 [ag,aw] H=D r:=cO N (S:=λG=>sI G ag aw H) Tryd.func58 (λ_=>by delta sI;kernel_rfl) h
end
end
section
set_option maxRecDepth 100000
noncomputable section
def oP(G:az)(N:Nat)(ag:aa)(H:ad):O:=j (bW ag) λc=>j (aI P 81 c 0) λd=>aH H (G 58 [d,I .u8 10] H) λe a=>D (.tuple [],a)
def KK(G:az)(N:Nat):∀ae H,bp P G N (ak (ak (bs Tryd.f29))) (bk Tryd.f29) [] (bk Tryd.f29) ae H=oP G N (ae 0) H:=by
 refine bL (aJ _) λae H=> ?_
 delta oP;kernel_rfl
def qI(G:az)(N:Nat)(d:aa->aa->aa->aa->ad->O)(ag a:aa)(c bx:aa)(H:ad):O:=j (aq P .lss 3 U bx c) λh=>aW (D h) (j (cB P 50 a bx) λi=>j (an P H 9 i) λk=>j (bW ag) λl=>j (aI P 81 l 0) λm=>aH H (G 57 [m,k] H) λo e=>j (aq P .add 3 X bx (I J 1)) λn=>d ag a c n e) (oP G N ag H)
def lS(G:az)(N:Nat):Nat->aa->aa->aa->aa->ad->O
 |0,_,_,_,_,_=>Z
 |n+1,ag,a,c,bx,H=>qI G N (lS G N n) ag a c bx H
def KJ(G:az)(N:Nat)(c:aa->aa->aa->aa->ad->O):∀ae H,bp P G N (a6 (a6 (ak (a6 (ak (bs Tryd.f29)))))) (λae H=>c (ae 0) (ae 14) (ae 15) (ae 16) H) [(0,(λae H=>oP G N (ae 0) H))] (bk Tryd.f29) ae H=qI G N c (ae 0) (ae 14) (ae 15) (ae 16) H:=by
 refine bL (aJ _) λae H=> ?_
 delta qI;generalize oP G N=a;revert a;refine id ?_;intro a;kernel_rfl
def su(G:az)(N:Nat)(ag aw d:aa)(H:ad):O:=aH H (G 54 [Y [32,32],aw] H) λh a=>j (bW ag) λk=>j (aI P 81 k 0) λe=>aH a (G 57 [e,h] a) λl c=>bg P .len [50] [d] c λi=>lS G N N ag d i (I J 0) c
def JB(N:Nat){ag aw a:aa}{H:ad}{r:aa×ad}(h:su (aC P ay) N ag aw a H=D r):aC P ay 29 [ag,aw,a] H=D r:=cO N (S:=λG=>su G N ag aw a H) Tryd.func29 (λG=>dN ((aP ah ((aP ah (KK G N) ((aP ah ((dc ah ((ei (k:=λm ae H=>lS G N m (ae 0) (ae 14) (ae 15) (ae 16) H) ah (λae H=>ah) (λm=>KJ G N (lS G N m)))))) (aJ _))))) (aJ _))) (by delta su;generalize lS G N N=c;revert c;refine id ?_;intro c;kernel_rfl)) h
def oR(G:az)(N:Nat)(k:aa->aa->aa->aa->aa->ad->O)(ag aw:aa)(h i c:aa)(H:ad):O:=j (aq P .lss 3 U c i) λm=>aW (D m) (j (cB P 71 h c) λn=>j (an P H 112 n) λo=>cf H [I J 0,Y [],Y [],I J 0,aa.ar,aa.ar,aa.ar,I J 0,I J 0] λe d=>a7 d (aV P d 112 e o) λa=>j (an P a 112 e) λbx=>aH a (G 60 [ag,aw,bx] a) λq l=>j (aq P .add 3 X c (I J 1)) λp=>k ag aw h i p l) (D (.tuple [],H))
def k0(G:az)(N:Nat):Nat->aa->aa->aa->aa->aa->ad->O
 |0,_,_,_,_,_,_=>Z
 |n+1,ag,aw,c,d,a,H=>oR G N (k0 G N n) ag aw c d a H
def KP(G:az)(N:Nat)(a:aa->aa->aa->aa->aa->ad->O):∀ae H,bp P G N (a6 (a6 (ak (bs Tryd.f31)))) (λae H=>a (ae 0) (ae 1) (ae 8) (ae 9) (ae 10) H) [(0,(bk Tryd.f31))] (bk Tryd.f31) ae H=oR G N a (ae 0) (ae 1) (ae 8) (ae 9) (ae 10) H:=by
 refine bL (aJ _) λae H=> ?_
 delta oR;kernel_rfl
def sw(G:az)(N:Nat)(ag aw a:aa)(H:ad):O:=bg P .len [71] [a] H λc=>k0 G N N ag aw a c (I J 0) H
def JD(N:Nat){ag aw a:aa}{H:ad}{r:aa×ad}(h:sw (aC P ay) N ag aw a H=D r):aC P ay 31 [ag,aw,a] H=D r:=cO N (S:=λG=>sw G N ag aw a H) Tryd.func31 (λG=>dN ((aP ah ((dc ah ((ei (k:=λm ae H=>k0 G N m (ae 0) (ae 1) (ae 8) (ae 9) (ae 10) H) ah (λae H=>ah) (λm=>KP G N (k0 G N m)))))) (aJ _))) (by delta sw;generalize k0 G N N=c;revert c;refine id ?_;intro c;kernel_rfl)) h
def ny(G:az)(ag aw:aa)(H:ad):O:=bS H (D (.aA (H).next 0 1 1 (D 1),.row U 1 [[Y [125]]])) λd a=>aH a (G 29 [ag,aw,d] a) λe c=>D (.tuple [],c)
def Lm(G:az)(N:Nat):∀ae H,bp P G N (ak (ak (ak (a6 (ak (ak (ak (ak (ak (ak (ak (ak (ak (a6 (ak (ak (ak (bs Tryd.f60)))))))))))))))))) (bk Tryd.f60) [(0,(bk Tryd.f60))] (bk Tryd.f60) ae H=ny G (ae 0) (ae 1) H:=by
 refine bL (aJ _) λae H=> ?_
 delta ny;kernel_rfl
def sJ(G:az)(ag aw ah:aa)(H:ad):O:=bS H (dS (H).next ah) λe n=>j (aI P 112 e 3) λaR=>j (an P n 41 aR) λaV=>aH n (G 41 [aV,I J 0] n) λA s=>aH s (G 16 [A] s) λk o=>j (aI P 112 e 3) λp=>j (an P o 41 p) λq=>aH o (G 41 [q,I J 1] o) λab y=>aH y (G 16 [ab] y) λae c=>bif ((bh (an P n 41 p) q&&(bh (an P s 41 p) q&&(bh (an P o 41 p) q&&X)))&&X)then(j (aI P 112 e 0) λbx=>j (an P c 3 bx) λi=>j (aq P .eql 3 X i (I J 1)) λaf=>aW (D af) (j (aI P 112 e 2) λai=>j (an P c 40 ai) λaj=>aH c (G 20 [aj] c) λak a=>j (aI P 112 e 1) λu=>j (an P a 9 u) λv=>bS a (bV P (a).next 50 5 [(0,(Y [118,97,114,32])),(1,v),(2,(Y [58,32])),(3,ak),(4,(Y [59]))]) λal d=>aH d (G 29 [ag,aw,al] d) λa7 h=>bif ((bh (an P c 9 u) v&&(bh (an P a 9 u) v&&X))&&X)then(D (.tuple [],h))else Z) (j (aq P .eql 3 X i (I J 2)) λam=>aW (D am) (j (aI P 112 e 2) λao=>j (an P c 40 ao) λap=>aH c (G 20 [ap] c) λau a=>j (aI P 112 e 1) λw=>j (an P a 9 w) λx=>bS a (bV P (a).next 50 7 [(0,(Y [108,101,116,32])),(1,x),(2,(Y [58,32])),(3,au),(4,(Y [32,61,32])),(5,k),(6,(Y [59]))]) λav d=>aH d (G 29 [ag,aw,av] d) λa8 h=>bif ((bh (an P c 9 w) x&&(bh (an P a 9 w) x&&X))&&X)then(D (.tuple [],h))else Z) (j (aq P .eql 3 X i (I J 3)) λax=>aW (D ax) (j (aI P 112 e 1) λay=>j (an P c 9 ay) λaB=>bS c (bV P (c).next 50 4 [(0,aB),(1,(Y [32,61,32])),(2,k),(3,(Y [59]))]) λaC a=>aH a (G 29 [ag,aw,aC] a) λa9 d=>D (.tuple [],d)) (j (aq P .eql 3 X i (I J 4)) λaD=>aW (D aD) (bS c (bV P (c).next 50 4 [(0,k),(1,(Y [32,61,32])),(2,ae),(3,(Y [59]))]) λaE a=>aH a (G 29 [ag,aw,aE] a) λa_ d=>D (.tuple [],d)) (j (aq P .eql 3 X i (I J 5)) λaF=>aW (D aF) (bS c (bV P (c).next 50 3 [(0,(Y [105,102,32])),(1,k),(2,(Y [32,123]))]) λaG a=>aH a (G 29 [ag,aw,aG] a) λba d=>j (aq P .add 3 X aw (I J 1)) λaJ=>j (aI P 112 e 4) λaK=>j (an P d 71 aK) λaL=>aH d (G 31 [ag,aJ,aL] d) λbb h=>j (aI P 112 e 5) λaM=>j (an P h 71 aM) λaN=>bg P .len [71] [aN] h λaO=>j (aq P .gtr 3 X aO (I J 0)) λaP=>aW (D aP) (bS h (D (.aA (h).next 0 1 1 (D 1),.row U 1 [[Y [125,32,101,108,115,101,32,123]]])) λaQ m=>aH m (G 29 [ag,aw,aQ] m) λbc l=>j (aq P .add 3 X aw (I J 1)) λaS=>j (aI P 112 e 5) λaT=>j (an P l 71 aT) λaU=>aH l (G 31 [ag,aS,aU] l) λbd z=>ny G ag aw z) (ny G ag aw h)) (j (aq P .eql 3 X i (I J 6)) λaX=>aW (D aX) (bS c (bV P (c).next 50 3 [(0,(Y [119,104,105,108,101,32])),(1,k),(2,(Y [32,123]))]) λaY a=>aH a (G 29 [ag,aw,aY] a) λbe d=>j (aq P .add 3 X aw (I J 1)) λaZ=>j (aI P 112 e 4) λa0=>j (an P d 71 a0) λB=>aH d (G 31 [ag,aZ,B] d) λa1 h=>bS h (D (.aA (h).next 0 1 1 (D 1),.row U 1 [[Y [125]]])) λE m=>aH m (G 29 [ag,aw,E] m) λa2 l=>D (.tuple [],l)) (j (aq P .eql 3 X i (I J 7)) λF=>aW (D F) (j (aI P 112 e 3) λK=>j (an P c 41 K) λL=>bg P .len [41] [L] c λM=>j (aq P .eql 3 X M (I J 0)) λN=>aW (D N) (bS c (D (.aA (c).next 0 1 1 (D 1),.row U 1 [[Y [114,101,116,117,114,110,59]]])) λQ a=>aH a (G 29 [ag,aw,Q] a) λa3 d=>D (.tuple [],d)) (bS c (bV P (c).next 50 3 [(0,(Y [114,101,116,117,114,110,32])),(1,k),(2,(Y [59]))]) λR a=>aH a (G 29 [ag,aw,R] a) λa4 d=>D (.tuple [],d))) (j (aq P .eql 3 X i (I J 8)) λS=>aW (D S) (bS c (bV P (c).next 50 3 [(0,(Y [112,114,105,110,116,32])),(1,k),(2,(Y [59]))]) λT a=>aH a (G 29 [ag,aw,T] a) λa5 d=>D (.tuple [],d)) (j (aq P .eql 3 X i (I J 9)) λV=>aW (D V) (bS c (bV P (c).next 50 2 [(0,k),(1,(Y [59]))]) λW a=>aH a (G 29 [ag,aw,W] a) λa6 d=>D (.tuple [],d)) (D (.tuple [],c)))))))))))else Z
def JV(N:Nat){ag aw a:aa}{H:ad}{r:aa×ad}(h:sJ (aC P ay) ag aw a H=D r):aC P ay 60 [ag,aw,a] H=D r:=cO N (S:=λG=>sJ G ag aw a H) Tryd.func60 (λG=>dN ((aP ah ((aP ah ((aP ah ((dc ah ((aP ah ((dt ah (aJ _) ((aP ah ((dt ah (aJ _) ((aP ah ((dt ah (aJ _) ((aP ah ((dt ah (aJ _) ((aP ah ((dt ah ((aP ah ((aP ah ((aP ah (Lm G N) (aJ _))) (aJ _))) (aJ _))) (aJ _))) (aJ _))))) (aJ _))))) (aJ _))))) (aJ _))))) (aJ _))))) (aJ _))) (aJ _))) (aJ _))) (by delta sJ;generalize ny G=c;revert c;refine id ?_;intro c;kernel_rfl)) h
