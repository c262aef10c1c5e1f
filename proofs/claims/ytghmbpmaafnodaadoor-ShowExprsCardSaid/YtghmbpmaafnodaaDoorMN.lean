/-
  Texts of one proof, laid together: ShVa Va Vb Z12 Zb U1 U2 U3 U4 U5 Qa Vc Vd ShV ShVb.
-/
import Derived.Test.YtghmbpmaafnodaaDoorMM
set_option linter.unusedVariables false
set_option linter.unusedSimpArgs false
set_option linter.defProp false
open Option renaming some→D,none→C
open Bool renaming true→X,false→U
open Go.bs.aa renaming int→I,str→Z
open Go.IntKind renaming i64→J
namespace Go.Proofs.YtghmbpmaafnodaaDoor
open Go.bs
open Nat (reduceAdd reduceLeDiff)
section
set_option maxRecDepth 100000
noncomputable section
def p9(G:az)(ag av:aa)(H:ad):O:=cn H [I J 0,I J 0,Z [],Z [],I J 0,aa.ar,I J 0,I J 0,I J 0,I J 0,I J 0] λd a=>bh P .len [41] [ag] a λi=>j (aq P .geq 3 U av i) λk=>aX (D k) (a8 a (aU P a 45 d (.agg [I J 0,I J 0,Z [],Z [],I J 0,aa.ar,I J 0,I J 0,I J 0,I J 0,I J 0])) λc=>j (ak P c 45 d) λr=>D (r,c)) (j (cM P 41 ag av) λe=>j (ak P a 45 e) λh=>a8 a (aU P a 45 d h) λc=>j (ak P c 45 d) λr=>D (r,c))
def xw(N:Nat){ag av:aa}{H:ad}{r:aa×ad}(h:p9 (aD P ay) ag av H=D r):aD P ay 41 [ag,av] H=D r:=cV N (S:=λG=>p9 G ag av H) Tryd.func41 (λ_=>by delta p9;kernel_rfl) h
def ua(G:az)(ag av:aa)(H:ad):O:=bZ H (dO (H).next ag) λe c=>j (aH P 45 e 0) λo=>j (ak P c 3 o) λbq=>aJ c (G 47 [bq] c) λp a=>j (aq P .lss 3 U p av) λq=>aX (D q) (j (ak P a 45 e) λh=>aJ a (G 16 [h] a) λi d=>j (aq P .add 9 X (Z [40]) i) λk=>j (aq P .add 9 X k (Z [41])) λl=>D (l,d)) (j (ak P a 45 e) λm=>aJ a (G 16 [m] a) λn d=>D (n,d))
def Mo(N:Nat){ag av:aa}{H:ad}{r:aa×ad}(h:ua (aD P ay) ag av H=D r):aD P ay 44 [ag,av] H=D r:=cV N (S:=λG=>ua G ag av H) Tryd.func44 (λ_=>by delta ua;kernel_rfl) h
def oA(G:az)(N:Nat)(d:aa)(H:ad):O:=aJ H (G 59 [d,Z [44,32]] H) λc a=>D (c,a)
def NI(G:az)(N:Nat):∀ae H,br P G N (o (o (o (bD Tryd.f45)))) (bm Tryd.f45) [] (bm Tryd.f45) ae H=oA G N (ae 3) H:=by
 refine bS (aL _) λae H=> ?_
 delta oA;kernel_rfl
def p_(G:az)(N:Nat)(m:aa->aa->aa->aa->ad->O)(i bq:aa)(l c:aa)(H:ad):O:=j (aq P .lss 3 U c l) λw=>aX (D w) (j (cM P 41 bq c) λo=>j (ak P H 45 o) λp=>cn H [I J 0,I J 0,Z [],Z [],I J 0,aa.ar,I J 0,I J 0,I J 0,I J 0,I J 0] λk d=>a8 d (aU P d 45 k p) λa=>j (ak P a 45 k) λq=>aJ a (G 16 [q] a) λs e=>bZ e (b5 P (e).next 50 1 [(0,s)]) λu h=>aJ h (c1 P h [50,50] i u) λbC n=>j (aq P .add 3 X c (I J 1)) λv=>m bC bq l v n) (oA G N i H)
def lT(G:az)(N:Nat):Nat->aa->aa->aa->aa->ad->O
 |0,_,_,_,_,_=>C
 |n+1,a,bq,c,d,H=>p_ G N (lT G N n) a bq c d H
def NH(G:az)(N:Nat)(c:aa->aa->aa->aa->ad->O):∀ae H,br P G N (a7 (a7 (o (a7 (o (o (bD Tryd.f45))))))) (λae H=>c (ae 3) (ae 6) (ae 7) (ae 8) H) [(0,(λae H=>oA G N (ae 3) H))] (bm Tryd.f45) ae H=p_ G N c (ae 3) (ae 6) (ae 7) (ae 8) H:=by
 refine bS (aL _) λae H=> ?_
 delta p_;generalize oA G N=a;revert a;refine id ?_;intro a;kernel_rfl
def ub(G:az)(N:Nat)(ag:aa)(H:ad):O:=bh P .len [41] [ag] H λa=>lT G N N aa.ar ag a (I J 0) H
def Mp(N:Nat){ag:aa}{H:ad}{r:aa×ad}(h:ub (aD P ay) N ag H=D r):aD P ay 45 [ag] H=D r:=cV N (S:=λG=>ub G N ag H) Tryd.func45 (λG=>dY ((aQ ah ((aQ ah ((aQ ah (NI G N) ((aQ ah ((dm ah ((eB (k:=λm ae H=>lT G N m (ae 3) (ae 6) (ae 7) (ae 8) H) ah (λae H=>ah) (λm=>NH G N (lT G N m)))))) (aL _))))) (aL _))) (aL _))) (by delta ub;generalize lT G N N=a;revert a;refine id ?_;intro a;kernel_rfl)) h
def qa(G:az)(H:ad):O:=some ((Z []),H)
def NJ(G:az)(N:Nat):∀ae H,br P G N (o (o (bD Tryd.f46))) (bm Tryd.f46) [] (bm Tryd.f46) ae H=qa G H:=by
 refine bS (aL _) λae H=> ?_
 delta qa;kernel_rfl
def oB(G:az)(a o:aa)(H:ad):O:=aX (D o) (D ((Z [45]),H)) (j (aq P .eql 3 X a (I J 13)) λp=>aX (D p) (D ((Z [33]),H)) (j (aq P .eql 3 X a (I J 14)) λc=>aX (D c) (D ((Z [43]),H)) (j (aq P .eql 3 X a (I J 16)) λd=>aX (D d) (D ((Z [42]),H)) (j (aq P .eql 3 X a (I J 17)) λe=>aX (D e) (D ((Z [47]),H)) (j (aq P .eql 3 X a (I J 18)) λbC=>aX (D bC) (D ((Z [37]),H)) (j (aq P .eql 3 X a (I J 19)) λh=>aX (D h) (D ((Z [60]),H)) (j (aq P .eql 3 X a (I J 20)) λi=>aX (D i) (D ((Z [60,61]),H)) (j (aq P .eql 3 X a (I J 21)) λk=>aX (D k) (D ((Z [61,61]),H)) (j (aq P .eql 3 X a (I J 22)) λl=>aX (D l) (D ((Z [33,61]),H)) (j (aq P .eql 3 X a (I J 23)) λm=>aX (D m) (D ((Z [38,38]),H)) (j (aq P .eql 3 X a (I J 24)) λn=>aX (D n) (D ((Z [124,124]),H)) (qa G H))))))))))))
def NK(G:az)(N:Nat):∀ae H,br P G N (o (a7 (o (a7 (o (bD Tryd.f46)))))) (λae H=>qa G H) [(0,(λae H=>qa G H))] (bm Tryd.f46) ae H=oB G (ae 3) (ae 4) H:=by
 refine bS (aL _) λae H=> ?_
 delta oB;generalize qa G=a;revert a;refine id ?_;intro a;kernel_rfl
def r3(G:az)(ag:aa)(H:ad):O:=j (aq P .eql 3 X ag (I J 12)) λa=>aX (D a) (oB G ag a H) (j (aq P .eql 3 X ag (I J 15)) λbq=>oB G ag bq H)
def xx(N:Nat){ag:aa}{H:ad}{r:aa×ad}(h:r3 (aD P ay) ag H=D r):aD P ay 46 [ag] H=D r:=cV N (S:=λG=>r3 G ag H) Tryd.func46 (λG=>dY ((aQ ah ((aQ ah (NJ G N) ((aQ ah ((dm ah ((aQ ah (NK G N) (aL _))))) (aL _))))) (aL _))) (by delta r3;generalize oB G=a;revert a;refine id ?_;intro a;kernel_rfl)) h
def ji(G:az)(H:ad):O:=some ((I J 7),H)
def NL(G:az)(N:Nat):∀ae H,br P G N (o (o (bD Tryd.f47))) (bm Tryd.f47) [] (bm Tryd.f47) ae H=ji G H:=by
 refine bS (aL _) λae H=> ?_
 delta ji;kernel_rfl
def qc(G:az)(a:aa)(H:ad):O:=aX (D a) (D ((I J 6),H)) (ji G H)
def NQ(G:az)(N:Nat):∀ae H,br P G N (o (o (o (o (o (o (o (o (o (o (o (a7 (o (a7 (o (bD Tryd.f47)))))))))))))))) (λae H=>ji G H) [(0,(λae H=>ji G H))] (bm Tryd.f47) ae H=qc G (ae 20) H:=by
 refine bS (aL _) λae H=> ?_
 delta qc;generalize ji G=a;revert a;refine id ?_;intro a;kernel_rfl
def oC(G:az)(c bC:aa)(H:ad):O:=aX (D bC) (D ((I J 5),H)) (j (aq P .eql 3 X c (I J 12)) λa=>aX (D a) (qc G a H) (j (aq P .eql 3 X c (I J 13)) λd=>qc G d H))
def NP(G:az)(N:Nat):∀ae H,br P G N (o (o (o (o (o (o (o (o (o (a7 (o (a7 (o (bD Tryd.f47)))))))))))))) (λae H=>ji G H) [(0,(λae H=>ji G H))] (bm Tryd.f47) ae H=oC G (ae 3) (ae 16) H:=by
 refine bS ((dB ah (aL _) ((aQ ah (NQ G N) (aL _))))) λae H=> ?_
 delta oC;generalize qc G=a;revert a;refine id ?_;intro a;kernel_rfl
def qb(G:az)(a e:aa)(H:ad):O:=aX (D e) (D ((I J 4),H)) (j (aq P .eql 3 X a (I J 16)) λc=>aX (D c) (oC G a c H) (j (aq P .eql 3 X a (I J 17)) λd=>aX (D d) (oC G a d H) (j (aq P .eql 3 X a (I J 18)) λh=>oC G a h H)))
def NN(G:az)(N:Nat):∀ae H,br P G N (o (o (o (o (o (o (o (a7 (o (a7 (o (bD Tryd.f47)))))))))))) (λae H=>ji G H) [(0,(λae H=>ji G H))] (bm Tryd.f47) ae H=qb G (ae 3) (ae 13) H:=by
 refine bS ((dB ah (aL _) ((aQ ah (NP G N) (aL _))))) λae H=> ?_
 delta qb;generalize oC G=a;revert a;refine id ?_;intro a;kernel_rfl
def mW(G:az)(a e:aa)(H:ad):O:=aX (D e) (D ((I J 3),H)) (j (aq P .eql 3 X a (I J 14)) λc=>aX (D c) (qb G a c H) (j (aq P .eql 3 X a (I J 15)) λd=>qb G a d H))
def NM(G:az)(N:Nat):∀ae H,br P G N (o (o (o (o (o (a7 (o (a7 (o (bD Tryd.f47)))))))))) (λae H=>ji G H) [(0,(λae H=>ji G H))] (bm Tryd.f47) ae H=mW G (ae 3) (ae 8) H:=by
 refine bS ((dB ah (aL _) ((aQ ah (NN G N) (aL _))))) λae H=> ?_
 delta mW;generalize qb G=a;revert a;refine id ?_;intro a;kernel_rfl
def uc(G:az)(ag:aa)(H:ad):O:=j (aq P .eql 3 X ag (I J 24)) λh=>aX (D h) (D ((I J 1),H)) (j (aq P .eql 3 X ag (I J 23)) λi=>aX (D i) (D ((I J 2),H)) (j (aq P .eql 3 X ag (I J 19)) λd=>aX (D d) (mW G ag d H) (j (aq P .eql 3 X ag (I J 20)) λa=>aX (D a) (mW G ag a H) (j (aq P .eql 3 X ag (I J 21)) λc=>aX (D c) (mW G ag c H) (j (aq P .eql 3 X ag (I J 22)) λe=>mW G ag e H)))))
def Mq(N:Nat){ag:aa}{H:ad}{r:aa×ad}(h:uc (aD P ay) ag H=D r):aD P ay 47 [ag] H=D r:=cV N (S:=λG=>uc G ag H) Tryd.func47 (λG=>dY ((aQ ah ((aQ ah (NL G N) ((aQ ah ((dm ah ((aQ ah ((dB ah (aL _) ((aQ ah ((dB ah (aL _) ((aQ ah (NM G N) (aL _))))) (aL _))))) (aL _))))) (aL _))))) (aL _))) (by delta uc;generalize mW G=a;revert a;refine id ?_;intro a;kernel_rfl)) h
def tQ(G:az)(ag:aa)(H:ad):O:=bZ H (dO (H).next ag) λav a=>j (aH P 40 av 1) λn=>j (ak P a 3 n) λo=>bh P .max [3,3] [o,I J 0] a λbq=>bh P .min [3,3] [bq,I J 3] a λi=>aJ a (G 54 [Z [91],i] a) λp e=>aJ e (G 54 [Z [93],i] e) λl h=>j (aH P 40 av 0) λc=>j (ak P h 9 c) λd=>j (aq P .add 9 U p d) λk=>j (aq P .add 9 U k l) λm=>bif ((bl (ak P a 9 c) d&&(bl (ak P e 9 c) d&&bl (ak P h 9 c) d))&&X)then(D (m,h))else C
def L9(N:Nat){ag:aa}{H:ad}{r:aa×ad}(h:tQ (aD P ay) ag H=D r):aD P ay 20 [ag] H=D r:=cV N (S:=λG=>tQ G ag H) Tryd.func20 (λ_=>by delta tQ;kernel_rfl) h
def mR(G:az)(av A:aa)(H:ad):O:=j (aH P 45 av 0) λB=>j (ak P H 3 B) λE=>aJ H (G 46 [E] H) λl a=>j (aq P .neq 9 X l (Z [])) λF=>aX (D F) (j (aH P 45 av 0) λn=>j (ak P a 3 n) λo=>aJ a (G 47 [o] a) λk c=>j (ak P c 45 A) λp=>aJ c (G 44 [p,k] c) λq d=>j (aH P 45 av 4) λe=>j (ak P d 41 e) λh=>aJ d (G 41 [h,I J 1] d) λw i=>j (aq P .add 3 X k (I J 1)) λx=>aJ i (G 44 [w,x] i) λy m=>j (aq P .add 9 X q (Z [32])) λs=>j (aq P .add 9 U s l) λu=>j (aq P .add 9 X u (Z [32])) λv=>j (aq P .add 9 U v y) λz=>bif ((bl (ak P c 41 e) h&&(bl (ak P d 41 e) h&&X))&&X)then(D (z,m))else C) (D ((Z []),a))
def Nf(G:az)(N:Nat):∀ae H,br P G N (o (o (o (bD Tryd.f16)))) (bm Tryd.f16) [] (bm Tryd.f16) ae H=mR G (ae 1) (ae 3) H:=by
 refine bS (aL _) λae H=> ?_
 delta mR;kernel_rfl
def lN(G:az)(av c h:aa)(H:ad):O:=aX (D h) (j (aH P 45 av 0) λi=>j (ak P H 3 i) λk=>aJ H (G 46 [k] H) λl a=>j (ak P a 45 c) λd=>aJ a (G 44 [d,I J 6] a) λm e=>j (aq P .add 9 U l m) λn=>bif ((bl (ak P H 45 c) d&&(bl (ak P a 45 c) d&&X))&&X)then(D (n,e))else C) (mR G av c H)
def Ng(G:az)(N:Nat):∀ae H,br P G N (o (o (o (o (o (o (o (o (o (o (o (o (o (o (o (o (o (o (o (o (o (o (o (a7 (o (a7 (o (o (bD Tryd.f16))))))))))))))))))))))))))))) (λae H=>mR G (ae 1) (ae 3) H) [(0,(λae H=>mR G (ae 1) (ae 3) H))] (bm Tryd.f16) ae H=lN G (ae 1) (ae 3) (ae 86) H:=by
 refine bS (aL _) λae H=> ?_
 delta lN;generalize mR G=a;revert a;refine id ?_;intro a;kernel_rfl
def rZ(G:az)(ag:aa)(H:ad):O:=bZ H (dO (H).next ag) λav i=>j (aH P 45 av 4) λbq=>j (ak P i 41 bq) λaP=>aJ i (G 41 [aP,I J 0] i) λa0 v=>cn v [I J 0,I J 0,Z [],Z [],I J 0,aa.ar,I J 0,I J 0,I J 0,I J 0,I J 0] λe s=>a8 s (aU P s 45 e a0) λa=>j (aH P 45 av 0) λa7=>j (ak P a 3 a7) λd=>j (aq P .eql 3 X d (I J 1)) λx=>aX (D x) (j (aH P 45 av 1) λy=>j (ak P a 3 y) λz=>aJ a (G 42 [z] a) λA c=>D (A,c)) (j (aq P .eql 3 X d (I J 2)) λB=>aX (D B) (j (aH P 45 av 1) λE=>j (ak P a 3 E) λF=>j (aq P .neq 3 X F (I J 0)) λK=>aJ a (G 43 [K] a) λL c=>D (L,c)) (j (aq P .eql 3 X d (I J 3)) λM=>aX (D M) (j (aH P 45 av 3) λN=>j (ak P a 40 N) λQ=>aJ a (G 20 [Q] a) λR c=>j (aq P .add 9 X (Z [110,117,108,108,32]) R) λS=>D (S,c)) (j (aq P .eql 3 X d (I J 4)) λT=>aX (D T) (j (aH P 45 av 2) λV=>j (ak P a 9 V) λW=>D (W,a)) (j (aq P .eql 3 X d (I J 5)) λab=>aX (D ab) (j (ak P a 45 e) λae=>aJ a (G 44 [ae,I J 7] a) λaf c=>j (aq P .add 9 X af (Z [46])) λah=>j (aH P 45 av 2) λk=>j (ak P c 9 k) λl=>j (aq P .add 9 U ah l) λai=>bif ((bl (ak P a 9 k) l&&bl (ak P c 9 k) l)&&X)then(D (ai,c))else C) (j (aq P .eql 3 X d (I J 6)) λaj=>aX (D aj) (j (ak P a 45 e) λal=>aJ a (G 44 [al,I J 7] a) λam c=>j (aH P 45 av 4) λm=>j (ak P c 41 m) λn=>aJ c (G 41 [n,I J 1] c) λao h=>aJ h (G 16 [ao] h) λap w=>j (aq P .add 9 X am (Z [91])) λan=>j (aq P .add 9 U an ap) λau=>j (aq P .add 9 X au (Z [93])) λaw=>bif ((bl (ak P a 41 m) n&&(bl (ak P c 41 m) n&&X))&&X)then(D (aw,w))else C) (j (aq P .eql 3 X d (I J 7)) λax=>aX (D ax) (j (aH P 45 av 4) λaA=>j (ak P a 41 aA) λaC=>aJ a (G 45 [aC] a) λaD c=>j (aH P 45 av 2) λo=>j (ak P c 9 o) λp=>j (aq P .add 9 X p (Z [40])) λay=>j (aq P .add 9 U ay aD) λaE=>j (aq P .add 9 X aE (Z [41])) λaF=>bif ((bl (ak P a 9 o) p&&bl (ak P c 9 o) p)&&X)then(D (aF,c))else C) (j (aq P .eql 3 X d (I J 8)) λaG=>aX (D aG) (j (aH P 45 av 3) λaI=>j (ak P a 40 aI) λaK=>aJ a (G 20 [aK] a) λaL c=>j (aq P .add 9 X (Z [110,101,119,32]) aL) λaM=>D (aM,c)) (j (aq P .eql 3 X d (I J 9)) λaN=>aX (D aN) (j (aH P 45 av 3) λaO=>j (ak P a 40 aO) λaQ=>aJ a (G 20 [aQ] a) λaR c=>j (ak P c 45 e) λq=>aJ c (G 16 [q] c) λaV h=>j (aq P .add 9 X (Z [110,101,119,32,91]) aR) λaS=>j (aq P .add 9 X aS (Z [93,40])) λaT=>j (aq P .add 9 U aT aV) λaW=>j (aq P .add 9 X aW (Z [41])) λaY=>bif ((bl (ak P a 45 e) q&&(bl (ak P c 45 e) q&&X))&&X)then(D (aY,h))else C) (j (aq P .eql 3 X d (I J 10)) λaZ=>aX (D aZ) (j (ak P a 45 e) λa1=>aJ a (G 16 [a1] a) λa2 c=>j (aq P .add 9 X (Z [108,101,110,40]) a2) λa3=>j (aq P .add 9 X a3 (Z [41])) λa4=>D (a4,c)) (j (aq P .eql 3 X d (I J 11)) λa5=>aX (D a5) (D ((Z [114,101,97,100,40,41]),a)) (j (aq P .eql 3 X d (I J 12)) λu=>aX (D u) (lN G av e u a) (j (aq P .eql 3 X d (I J 13)) λa6=>lN G av e a6 a))))))))))))
def E3(N:Nat){ag:aa}{H:ad}{r:aa×ad}(h:rZ (aD P ay) ag H=D r):aD P ay 16 [ag] H=D r:=cV N (S:=λG=>rZ G ag H) Tryd.func16 (λG=>dY ((aQ ah ((aQ ah ((aQ ah (Nf G N) ((aQ ah ((dm ah ((aQ ah ((dB ah (aL _) ((aQ ah ((dB ah (aL _) ((aQ ah ((dB ah (aL _) ((aQ ah ((dB ah (aL _) ((aQ ah ((dB ah (aL _) ((aQ ah ((dB ah (aL _) ((aQ ah ((dB ah (aL _) ((aQ ah ((dB ah (aL _) ((aQ ah ((dB ah (aL _) ((aQ ah ((dB ah (aL _) ((aQ ah ((dB ah (aL _) ((aQ ah (Ng G N) (aL _))))) (aL _))))) (aL _))))) (aL _))))) (aL _))))) (aL _))))) (aL _))))) (aL _))))) (aL _))))) (aL _))))) (aL _))))) (aL _))))) (aL _))))) (aL _))) (aL _))) (by delta rZ;generalize lN G=a;revert a;refine id ?_;intro a;kernel_rfl)) h
end
end
def Dr{H:ad}{k:Int}:W (aD P ay 47 [I J k] H) λv H'=>v= I J (cm k)/\H'=H:=by
 refine cF (λ_=>Mq 0) ?_;unfold uc mW qb oC qc ji;unfold cm;have i:∀m:Int,k=m->(k==m)=true:=λm h=>by simpa using h
 have cC:∀m:Int,k≠m->(k==m)=false:=λm h=>by simpa using h
 by_cases a:k=24
 ·simp-implicitDefEqProofs(disch:=try exact aj)only[bh,bx,da,i _ a];refine⟨_,_,rfl,?_,rfl⟩;rw[if_pos a];rfl
 by_cases c:k=23
 ·simp-implicitDefEqProofs(disch:=try exact aj)only[bh,bx,da,cC _ a,i _ c];refine⟨_,_,rfl,?_,rfl⟩;rw[if_neg a,if_pos c];rfl
 by_cases l:19<=k/\k<=22
 ·have:k=19\/k=20\/k=21\/k=22:=af;rcases this with rfl|rfl|rfl|rfl<;>exact⟨_,_,rfl,rfl,rfl⟩
 by_cases e:k=14\/k=15
 ·rcases e with rfl|rfl<;>exact⟨_,_,rfl,rfl,rfl⟩
 by_cases j:16<=k/\k<=18
 ·have:k=16\/k=17\/k=18:=af;rcases this with rfl|rfl|rfl<;>exact⟨_,_,rfl,rfl,rfl⟩
 by_cases d:k=12\/k=13
 ·rcases d with rfl|rfl<;>exact⟨_,_,rfl,rfl,rfl⟩
 ·simp-implicitDefEqProofs(disch:=try exact aj)only[bh,bx,da,cC 24 af,cC 23 af,cC 19 af,cC 20 af,cC 21 af,cC 22 af,cC 14 af,cC 15 af,cC 16 af,cC 17 af,cC 18 af,cC 12 af,cC 13 af];refine⟨_,_,rfl,?_,rfl⟩;rw[if_neg a,if_neg c,if_neg l,if_neg e,if_neg j,if_neg d];rfl
def OV{H:ad}{k:Int}(h:14<=k)(aZ:k<=24):W (aD P ay 46 [I J k] H) λv H'=>v= Z (ez k)/\H'=H:=by
 refine cF (λ_=>xx 0) ?_;have a:k=14\/k=15\/k=16\/k=17\/k=18\/k=19\/k=20\/k=21\/k=22\/k=23\/k=24:=af;unfold r3 oB;rcases a with rfl|rfl|rfl|rfl|rfl|rfl|rfl|rfl|rfl|rfl|rfl<;>exact⟨_,_,rfl,rfl,rfl⟩
def Fp{H:ad}{k:Int}(h:k=12\/k=13):W (aD P ay 46 [I J k] H) λv H'=>v= Z (bif k==12 then[45]else[33])/\H'=H:=by
 refine cF (λ_=>xx 0) ?_;unfold r3 oB;rcases h with rfl|rfl<;>exact⟨_,_,rfl,rfl,rfl⟩
def EK(x:aC):∀n,Lib.repeatL x n=(List.replicate n x).flatten
 |0=>rfl
 |n+1=>by rw[Lib.repeatL,EK x n,List.replicate_succ,List.flatten_cons]
def xn{H:ad}{s:aC}{n:Nat}(h:s.length*n<=140737488355328)(a:n<=9223372036854775807):aD P ay 54 [Z s,I J n] H=D (Z (List.replicate n s).flatten,H):=by
 refine mr ?_;show(if 0<=(n:Int)/\(n:Int)<=9223372036854775807/\s.length*(n:Int).toNat<=140737488355328 then D (aa.str (Lib.repeatL s (n:Int).toNat),H)else C)=_;rw[Int.toNat_natCast,if_pos ⟨af,af,h⟩,EK]
def Dz(a b:Int)(H:ad):b_ P H .max [3,3] [I J a,I J b]=D (I J (max a b)):=by
 simp[b_,sG];omega
def KY(a b:Int)(H:ad):b_ P H .min [3,3] [I J a,I J b]=D (I J (min a b)):=by
 simp[b_,sH];omega
def type20{H:ad}{x:aC}{z:Int}(e:0<=z)(h:z<=3)(i:x.length<=100):W (aD P ay 20 [.agg [Z x,I J z]] H) λv H'=>v= Z (flat (cj x z))/\aO H H':=by
 refine cF (λ_=>L9 0) ?_;have a:∀l,dO l (.agg [Z x,I J z])=D (.ptr l 0 0,.row U 2 [[Z x,I J z]]):=λl=>hk l _ rfl
 have dr:=ad.bI H (.row U 2 [[Z x,I J z]]);obtain⟨n,rfl⟩:∃n:Nat,z=n:=⟨z.toNat,af⟩;have m1:max (n:Int) 0=n:=af;have m2:min (n:Int) 3=n:=af;have c:∀H,aD P ay 54 [Z [91],I J n] H=D (Z (List.replicate n [91]).flatten,H):=λH=>xn (by simp only[List.length_cons,List.length_nil];omega) af
 have d:∀H,aD P ay 54 [Z [93],I J n] H=D (Z (List.replicate n [93]).flatten,H):=λH=>xn (by simp only[List.length_cons,List.length_nil];omega) af
 have j:((List.replicate n ([91]:aC)).flatten).length=n:=by simp
 have k:((List.replicate n ([93]:aC)).flatten).length=n:=by simp
 have an:aq P .add 9 U (Z (List.replicate n [91]).flatten) (Z x)=D (Z ((List.replicate n [91]).flatten++x)):=c4 af;have aE:aq P .add 9 U (Z ((List.replicate n [91]).flatten++x)) (Z (List.replicate n [93]).flatten)=D (Z ((List.replicate n [91]).flatten++x++(List.replicate n [93]).flatten)):=c4 (by rw[List.length_append];omega);rw[tQ,vL];simp-implicitDefEqProofs(disch:=try exact aj)only[reduceAdd,reduceLeDiff,reduceIte,aw,a,dr,bh,Dz,KY,m1,m2,c,d,eZ,an,aE,bj];exact ba.2 ⟨by rw[Int.toNat_natCast];unfold ht;rw[List.append_assoc],aO.push _ _⟩
def s8{H:ad}{l i n:Nat}{cap:Option Nat}{ro:Bool}{els:List (List aa)}{j:Nat}{z:Int}(p:z=j)(q:j<n){a:bG}{kv:aa}(h:kv.one=X)(e:H.get l=D (.row ro 11 els))(c:els[i+j]? =D (a.cells kv)):
  W (aD P ay 41 [.aB l i n 11 cap,I J z] H) λv H'=>v= .agg (a.cells kv)/\aO H H':=by
 subst p;refine cF (λ_=>xw 0) ?_;have k:¬((n:Int)<=(j:Int)):=af;have m:(j:Int)<(n:Int):=af;have d:(0:Int)<=(j:Int):=af;have o:((j:Int)).toNat=j:=af;have g1:∀b,(H.push b).get l=D (.row ro 11 els):=λb=>(aO.push H b).get e
 simp only[bG.cells]at c ⊢;unfold p9;simp-implicitDefEqProofs(disch:=try exact aj)only[reduceAdd,reduceLeDiff,reduceIte,aw,k,m,d,o,g1,c,h,decide_false];exact ba.2 ⟨rfl,aO.push _ _⟩
def cg.q0{H:ad}{ok:Nat->Prop}{ks:List aA}{kv:aa}(h:cg H ok ks kv)(H':ad):b_ P H' .len [41] [kv]=D (I J ks.length):=by
 rcases h with⟨rfl,e⟩|⟨l,i,cap,ro,els,rfl,_⟩|⟨l,i,cap,rfl,e⟩
 ·rw[e];exact rB
 ·generalize ks.length=n;exact mA
 ·rw[e];exact mA
def Cx{H:ad}{ok:Nat->Prop}{ks:List aA}{kv:aa}(h:cg H ok ks kv)(q:ks.length<=1000000000):W (aD P ay 41 [kv,I J 0] H) λv H'=>∃b c,v= .agg (bG.cells b c)/\c.one=X/\(∀cl d r,ks= .mk cl d::r->b=cl/\cg H ok d c)/\aO H H':=by
 cases ks with
 |nil=>
  refine cF (λ_=>xw 0) ?_;have o:∀H',b_ P H' .len [41] [kv]=D (I J 0):=λH'=>h.q0 H'
  have m:(0:Int)<=0:=af;unfold p9;simp-implicitDefEqProofs(disch:=try exact aj)only[reduceAdd,reduceLeDiff,reduceIte,aw,o,m,decide_true];exact ba.2 ⟨{kind:=0,pos:=0},.ar,rfl,rfl,λ_ _ _ h=>(by cases h),aO.push _ _⟩
 |cons e r=>
  obtain⟨a,es⟩:=e;obtain⟨l,i,cap,ro,els,c,rfl,g1,a6,k⟩:=h.jA (n:=r.length+1) (by simp) (j:=0) rfl;refine(s8 (j:=0) rfl af k.ej g1 a6).mono ?_;rintro v H' ⟨rfl,p⟩;exact⟨a,c,rfl,k.ej,λcl d r h=>by cases h;exact⟨rfl,k⟩,p⟩
def sy(e:aA):Prop:=∀(d m:Nat),ct d m e->cK e<=1000000000->∀(a:bG) (ks:List aA),e= .mk a ks->∀(H:ad) (ok:Nat->Prop) (kv:aa),cg H ok ks kv->fi.hP H->W (aD P ay 16 [.agg (a.cells kv)] H) λr H'=>r= Z (flat (bd e))/\aO H H'
def PZ{H:ad}{a:bG}{ks:List aA}{kv:aa}{m:Nat}(n:kv.one=X)(o:∀H',aO H H'->W (aD P ay 16 [.agg (a.cells kv)] H') λr j=>r= Z (flat (bd (.mk a ks)))/\aO H' j)(p:(flat (bd (.mk a ks))).length<=1000000000):
  W (aD P ay 44 [.agg (a.cells kv),I J m] H) λr H'=>r= Z (flat (bV m (.mk a ks)))/\aO H H':=by
 refine cF (λ_=>Mo 0) ?_;have i:∀l,dO l (.agg (a.cells kv))=D (.ptr l 0 0,.row U 11 [a.cells kv]):=λl=>hk l _ (by simp only[bG.cells,List.all_cons,List.all_nil,gF,hp,n,Bool.and_self])
 have pp:=aO.push H (.row U 11 [a.cells kv]);have dr:=ad.bI H (.row U 11 [a.cells kv]);have e:=λH' (h:aO H H')=>o H' h
 simp only[bG.cells]at i pp dr e ⊢;unfold ua;simp-implicitDefEqProofs(disch:=try exact aj)only[reduceAdd,reduceLeDiff,reduceIte,aw,i];refine aP Dr ?_;rintro _ _ ⟨rfl,rfl⟩;refine⟨bj _,?_⟩;by_cases hm:((cm a.kind:Nat):Int)<(m:Int)
 ·have d:(aA.mk a ks).b0<m:=by unfold aA.b0 aA.kind;simp only;omega
  simp-implicitDefEqProofs(disch:=try exact aj)only[bh,bx,da,Nat.reduceAdd,Nat.reduceLeDiff,reduceIte,aa.cells,cW,dL,ak,cO,dr,hm,decide_true];refine aP (e _ pp) ?_;rintro _ k ⟨rfl,c⟩;refine⟨c.1,?_⟩;have an:aq P .add 9 X (Z [40]) (Z (flat (bd (.mk a ks))))=D (Z (40::flat (bd (.mk a ks)))):=j3 _ _ _ _ (by simp only[List.length_cons,List.length_nil];omega);have aE:aq P .add 9 X (Z (40::flat (bd (.mk a ks)))) (Z [41])=D (Z (40::flat (bd (.mk a ks))++[41])):=j3 _ _ _ _ (by simp only[List.length_cons,List.length_nil];omega);simp only[an,aE,dT];exact ba.2 ⟨by rw[n6 d,c2,db];rfl,pp.trans c⟩
 ·have d:¬(aA.mk a ks).b0<m:=by unfold aA.b0 aA.kind;simp only;omega
  simp-implicitDefEqProofs(disch:=try exact aj)only[bh,bx,da,Nat.reduceAdd,Nat.reduceLeDiff,reduceIte,aa.cells,cW,dL,ak,cO,dr,hm,decide_false];refine aP (e _ pp) ?_;rintro _ k ⟨rfl,c⟩;refine⟨c.1,?_⟩;exact ba.2 ⟨by rw[kN d],pp.trans c⟩
def IY:∀(f n:Nat),n<=f->∀(g:Nat) (acc:aC),n<10^(g+1)->fY (g+1) n acc=Lib.decDigits n++acc:=by
 intro f
 induction f with
 |zero=>
  intro n c g acc _;obtain rfl:n=0:=af;rw[fY,Lib.decDigits];rfl
 |succ f e=>
  intro n c g acc a;rw[fY,Lib.decDigits];by_cases h:n<10
  ·rw[dif_pos h,if_pos af,Nat.mod_eq_of_lt h];rfl
  ·rw[dif_neg h,if_neg af];have d:n/10<=f:=af;cases g with
   |zero=>simp at a;omega
   |succ g=>
    rw[e (n/10) d g _ (by rw[Nat.pow_succ]at a;omega)];simp
def gQ.leaf{B:Nat}(a:bG):gQ B (.mk a []):=by rw[gQ,eR];exact⟨Nat.zero_le _,trivial⟩
def gQ.one{B:Nat}(c:2<=B)(a:bG){e:aA}(h:gQ B e):gQ B (.mk a [e]):=by
 rw[gQ,eR,eR];exact⟨by simp;omega,h,trivial⟩
def gQ.two{B:Nat}(c:2<=B)(a:bG){e f:aA}(h:gQ B e)(aZ:gQ B f):gQ B (.mk a [e,f]):=by
 rw[gQ,eR,eR,eR];exact⟨by simp;omega,h,aZ,trivial⟩
def eR.append{B:Nat}{e:aA}(h:gQ B e):∀{l:List aA},eR B l->eR B (l++[e])
 |[],_=>by simp only[List.nil_append];rw[eR,eR];exact⟨h,trivial⟩
 |x::xs,a=>by
  rw[eR]at a;simp only[List.cons_append];rw[eR];exact⟨a.1,eR.append h a.2⟩
def IA{α β:Type}{x:Option α}{f:α->Option β}{b:β}(h:x.bind f=D b):∃a,x=D a/\f a=D b:=cZ.1 h
def CJ(T:List Tok)(s:au):left T s<=T.length:=by unfold left;split<;>omega
def eS.same{H:ad}{v:aa}{T:List Tok}(h:eS H v T):bl (D v) v=true:=by
 rcases h with⟨rfl,_⟩|⟨l,i,cap,rfl,_⟩
 ·exact xk
 ·exact lG _ _ _ _ _
def cw.below{H:ad}{ok:Nat->Prop}{e:aA}{v:aa}(h:cw H ok e v):cw H (λl=>ok l/\l<H.next) e v:=cw.a1 (λ_ _ _ h g=>⟨⟨h,ad.aS g⟩,g⟩) e v h
def u1.fin{ok:Nat->Prop}{H bR:ad}{r:Nat}{T:List Tok}{ao:aa}{s s':au}{a:b9}{es:List aA}{cc:aa}{x:Nat}(e:bQ H r T ao s)(m:cb r H bR)(d:bH bR r ao s')(i:cg bR (λl=>ok l/\l≠x) es cc)(j:H.next<=x)(c:bW):
  u1 ok H r T ao (.mk a es [] []) s' (.agg (a.cells cc .ar .ar)) (bR.set x c):=by
 have k:=e.rd.lt;have m':=m.cE (.inr j) c;refine⟨m',e.mut m' ?_,mb.2 ⟨cc,.ar,.ar,rfl,i.a1 (c9.set _ (by simp) λl h=>h.1),c_.nil _ _,c_.nil _ _⟩⟩;unfold bH at d ⊢;rw[ad.get_set_other af];exact d
def dJ.append{H:ad}{ok:Nat->Prop}:∀(es:List bM) (cs:List (List aa)) (e:bM) (c:List aa),dJ H ok es cs->cs.length=es.length->ew H ok e (.agg c)->dJ H ok (es++[e]) (cs++[c])
 |[],[],e,c,_,_,h=>by
  simp only[List.nil_append];rw[dJ,dJ];exact⟨h,trivial⟩
 |[],_::_,e,c,_,a,_=>by simp at a
 |_::_,[],e,c,h,_,_=>by rw[dJ]at h;exact h.elim
 |an::es,d::cs,e,c,h,a,he=>by
  rw[dJ]at h;simp only[List.cons_append];rw[dJ];exact⟨h.1,dJ.append es cs e c h.2 (by simpa using a) he⟩
def x6:P.underlying 71=D (.slice 112):=ah
def zy:hN P 112=D 136:=ah
def vn:eV P 112=D (.agg [I J 0,Z [],Z [],I J 0,.ar,.ar,.ar,I J 0,I J 0]):=ah
def H7{H:ad}{L:Nat}{cs:List aa}{cap:Option Nat}{ro:Bool}(a:H.get L=D (.row ro 9 [cs])):c1 P H [71,71] .ar (.aB L 0 1 9 cap)=D (.aB H.next 0 1 9 C,H.push (.row U 9 [cs])):=by
 simp[c1,hS,ju,dG,x6,qq,zy,vn,h7,eK,a,aa.cells]
def H8{H:ad}{L l n:Nat}{cs:List aa}{els:List (List aa)}{cap:Option Nat}{ro:Bool}(d:H.get L=D (.row ro 9 [cs]))(e:H.get l=D (.row U 9 els))(h:els.length=n)(i:n<=1000000000):c1 P H [71,71] (.aB l 0 n 9 C) (.aB L 0 1 9 cap)=D (.aB H.next 0 (n+1) 9 C,(H.set l .dead).push (.row U 9 (els++[cs]))):=by
 have a:(n+1)*136<=140737488355328:=af;have c:n+1<=9223372036854775807:=af;simp[c1,hS,ju,dG,x6,qq,zy,vn,h7,eK,d,e,aa.cells,h,a,c];rw[List.take_of_length_le af]
def O4(l:Nat)(cs:List aa)(h:cs.length=9)(a:cs.all aa.one=X):b5 P l 71 1 [(0,.agg cs)]=D (.aB l 0 1 9 (D 1),.row U 9 [cs]):=by
 simp[b5,x6,qq,vn,aa.cells,iV,h,a,gF,hp,tt]
def lh(n0:Nat)(H:ad)(l:List bM)(v:aa):Prop:=(v= .ar/\l=[])\/∃L els,v= .aB L 0 l.length 9 C/\H.get L=D (.row U 9 els)/\n0<=L/\els.length=l.length/\dJ H (λk=>n0<=k/\k≠L) l els
def lh.mut{n0 r:Nat}{H H':ad}{l:List bM}{v:aa}(h:lh n0 H l v)(m:cb r H H')(a:r<n0):lh n0 H' l v:=by
 rcases h with h|⟨L,els,an,aE,bn,b8,dK⟩
 ·exact .inl h
 ·exact .inr ⟨L,els,an,m.get aE af,bn,b8,dJ.a1 (en.mut m af λ_ h=>h) _ _ dK⟩
def lh.FH{n0:Nat}{H:ad}{l:List bM}{v:aa}(h:lh n0 H l v):c_ H (bk n0) l v:=by
 rcases h with⟨rfl,rfl⟩|⟨L,els,an,aE,bn,b8,dK⟩
 ·exact c_.nil _ _
 ·exact .inr (.inl ⟨L,0,C,U,els,an,bn,aE,by rw[List.drop_zero];exact dJ.a1 (en.lB λ_ h=>h.1) _ _ dK⟩)
def lh.app{n0 m:Nat}{H:ad}{l:List bM}{v:aa}(h:lh n0 H l v){e:bM}{cs:List aa}(he:ew H (bk m) e (.agg cs))(hm:n0<=m)(q:∀L n c,v= .aB L 0 n 9 c->L<m)(u:n0<=H.next)(p:l.length<=1000000000):
  ∃j H',c1 P (H.push (.row U 9 [cs])) [71,71] v (.aB H.next 0 1 9 (D 1))=D (j,H')/\lh n0 H' (l++[e]) j/\c0 (n0<= ·) H H'/\H.next+1<=H'.next:=by
 have i:=ad.bI H (.row U 9 [cs]);rcases h with⟨rfl,rfl⟩|⟨L,els,rfl,aE,bn,b8,dK⟩
 ·refine⟨_,_,H7 i,.inr ⟨_,[cs],rfl,ad.bI _ _,by simp only[ad.bX];omega,rfl,?_⟩,(((aO.push _ _).bE _).mut _),by simp only[ad.bX];omega⟩;rw[List.nil_append,dJ,dJ];refine⟨ew.a1 ⟨λk ro els a g=>⟨⟨by unfold bk at a;omega,?_⟩,((aO.push _ _).bE _).get g⟩,λk ro els a g=>⟨⟨by unfold bk at a;omega,?_⟩,((aO.push _ _).bE _).get g⟩⟩ e _ he,trivial⟩
  all_goals have:=ad.aS g;simp only[ad.bX];omega
 ·have s:=q L _ _ rfl;have w:=ad.aS aE;have o:(H.push (.row U 9 [cs])).get L=D (.row U 9 els):=(aO.push _ _).get aE;have d:∀k b,H.get k=D b->k≠L->(((H.push (.row U 9 [cs])).set L .dead).push (.row U 9 (els++[cs]))).get k=D b:=λk b g a=>by
   have:=ad.aS g;rw[ad.dw (by simp only[ad.ds,ad.bX];omega),ad.get_set_other af,ad.dw af];exact g
  refine⟨_,_,H8 i o b8 p,.inr ⟨_,els++[cs],by rw[List.length_append];rfl,ad.bI _ _,by simp only[ad.ds,ad.bX];omega,by simp[b8],?_⟩,?_,by simp only[ad.ds,ad.bX];omega⟩
  ·refine dJ.append _ _ _ _ (dJ.a1 ⟨λk ro es a g=>⟨⟨a.1,?_⟩,d _ _ g a.2⟩,λk ro es a g=>⟨⟨a.1,?_⟩,d _ _ g a.2⟩⟩ _ _ dK) b8 (ew.a1 ⟨λk ro es a g=>⟨⟨by unfold bk at a;omega,?_⟩,d _ _ g (by unfold bk at a;omega)⟩,λk ro es a g=>⟨⟨by unfold bk at a;omega,?_⟩,d _ _ g (by unfold bk at a;omega)⟩⟩ e _ he)
   all_goals have:=ad.aS g;simp only[ad.ds,ad.bX];omega
  ·exact(((aO.push _ _).mut _).cE (.inl bn) _).bE _
def dp(H:ad)(ok:Nat->Prop)(H':ad)(ok':Nat->Prop):Prop:=∀l b,ok l->H.get l=D b->ok' l/\H'.get l=D b
def dp.s{H H':ad}{ok ok':Nat->Prop}(h:dp H ok H' ok'):en H ok H' ok':=⟨λl _ _ a b=>h l _ a b,λl _ _ a b=>h l _ a b⟩
def dp.le{H:ad}{ok ok':Nat->Prop}(h:∀l,ok l->ok' l):dp H ok H ok':=λl _ a b=>⟨h l a,b⟩
def dp.mut{H H':ad}{ok:Nat->Prop}{S:Nat->Prop}(m:c0 S H H')(h:∀l,ok l->¬S l):dp H ok H' ok:=λl _ a b=>⟨a,m.get b (h l a)⟩
def dp.aM{H H':ad}{ok:Nat->Prop}(m:aO H H'):dp H ok H' ok:=λ_ _ a b=>⟨a,m.get b⟩
def dp.trans{H1 d e:ad}{a b c:Nat->Prop}(h:dp H1 a d b)(k:dp d b e c):dp H1 a e c:=λl x y z=>k l x (h l x y z).1 (h l x y z).2
structure h4(α:Type) where
 esz:Nat
 V:ad->(Nat->Prop)->α->List aa->Prop
 len:∀{H ok a cs},V H ok a cs->cs.length=esz/\cs.all aa.one=true
 a1:∀{H ok H' ok'} {a:α} {cs},dp H ok H' ok'->V H ok a cs->V H' ok' a cs
section
variable {α:Type}{K:h4 α}{H H':ad}{ok ok':Nat->Prop}
def c7(K:h4 α)(ok:Nat->Prop)(H:ad)(l:List α)(v:aa):Prop:=(v= .ar/\l=[])\/∃L els,v= .aB L 0 l.length K.esz C/\ok L/\H.get L=D (.row U K.esz els)/\els.length=l.length/\∀(i:Nat) (a:α),l[i]? =D a->∃cs,els[i]? =D cs/\K.V H (λk=>ok k/\k≠L) a cs
def dU(K:h4 α)(H:ad)(ok:Nat->Prop)(l:List α)(v:aa):Prop:=(v= .ar/\l=[])\/(∃L i cap ro els,v= .aB L i l.length K.esz (Option.map (· +l.length) cap)/\ok L/\H.get L=D (.row ro K.esz els)/\∀(j:Nat) (a:α),l[j]? =D a->∃cs,els[i+j]? =D cs/\K.V H ok a cs)\/∃L i cap,v= .aB L i 0 K.esz cap/\l=[]
def c7.one{l:List α}{v:aa}(h:c7 K ok H l v):v.one=true:=by
 rcases h with⟨rfl,_⟩|⟨L,els,rfl,_⟩<;>rfl
def dU.one{l:List α}{v:aa}(h:dU K H ok l v):v.one=true:=by
 rcases h with⟨rfl,_⟩|⟨L,i,cap,ro,els,rfl,_⟩|⟨L,i,cap,rfl,_⟩<;>rfl
def c7.nil:c7 K ok H [] .ar:= .inl ⟨rfl,rfl⟩
def dU.nil:dU K H ok [] .ar:= .inl ⟨rfl,rfl⟩
def c7.a1{l:List α}{v:aa}(p:dp H ok H' ok')(h:c7 K ok H l v):c7 K ok' H' l v:=by
 rcases h with h|⟨L,els,an,aE,bn,b8,dK⟩
 ·exact .inl h
 ·refine .inr ⟨L,els,an,(p _ _ aE bn).1,(p _ _ aE bn).2,b8,λi a d=> ?_⟩;obtain⟨cs,a6,e⟩:=dK i a d;exact⟨cs,a6,K.a1 (λk b c g=>⟨⟨(p _ _ c.1 g).1,c.2⟩,(p _ _ c.1 g).2⟩) e⟩
def dU.a1{l:List α}{v:aa}(p:dp H ok H' ok')(h:dU K H ok l v):dU K H' ok' l v:=by
 rcases h with h|⟨L,i,cap,ro,els,an,aE,bn,dK⟩|h
 ·exact .inl h
 ·refine .inr (.inl ⟨L,i,cap,ro,els,an,(p _ _ aE bn).1,(p _ _ aE bn).2,λj a c=> ?_⟩);obtain⟨cs,a6,d⟩:=dK j a c;exact⟨cs,a6,K.a1 p d⟩
 ·exact .inr (.inr h)
def c7.aB{l:List α}{v:aa}(h:c7 K ok H l v):dU K H ok l v:=by
 rcases h with h|⟨L,els,an,aE,bn,b8,dK⟩
 ·exact .inl h
 ·refine .inr (.inl ⟨L,0,C,U,els,an,aE,bn,λj a c=> ?_⟩);obtain⟨cs,a6,d⟩:=dK j a c;exact⟨cs,by rw[Nat.zero_add];exact a6,K.a1 (dp.le λ_ h=>h.1) d⟩
structure ku(t e esz:Nat):Prop where
 un:P.underlying t=some (.slice e)
 ts:cB P e=some esz
 gC:∃b,hN P e=some b/\b<=200
 vm:∃z,eV P e=some z/\z.cells.length=esz/\z.cells.all aa.one=true
 pos:0<esz/\esz<=100
def H_{t e esz:Nat}(y:ku t e esz){L:Nat}{cs:List aa}{cap:Option Nat}{ro:Bool}(d:H.get L=D (.row ro esz [cs])):c1 P H [t,t] .ar (.aB L 0 1 esz cap)=D (.aB H.next 0 1 esz C,H.push (.row U esz [cs])):=by
 obtain⟨b,c,j⟩:=y.gC;obtain⟨z,h,i,_⟩:=y.vm;have a:b<=140737488355328:=af;simp[c1,hS,ju,dG,y.un,y.ts,c,h,i,y.pos.1,h7,eK,d,a]
def Ia{t e esz:Nat}(y:ku t e esz){L l n:Nat}{cs:List aa}{els:List (List aa)}{cap:Option Nat}{ro:Bool}(i:H.get L=D (.row ro esz [cs]))(j:H.get l=D (.row U esz els))(k:els.length=n)(p:n<=1000000000):c1 P H [t,t] (.aB l 0 n esz C) (.aB L 0 1 esz cap)=D (.aB H.next 0 (n+1) esz C,(H.set l .dead).push (.row U esz (els++[cs]))):=by
 obtain⟨b,h,d⟩:=y.gC;obtain⟨z,m,o,_⟩:=y.vm;have a:(n+1)*b<=140737488355328:=Nat.le_trans (Nat.mul_le_mul_left (n+1) d) af;have c:n+1<=9223372036854775807:=af;simp[c1,hS,ju,dG,y.un,y.ts,h,m,o,y.pos.1,h7,eK,i,j,k,a,c];rw[List.take_of_length_le af]
def sg{t e esz:Nat}(y:ku t e esz)(l:Nat){cs:List aa}(h:cs.length=esz)(d:cs.all aa.one=X):b5 P l t 1 [(0,.agg cs)]=D (.aB l 0 1 esz (D 1),.row U esz [cs]):=by
 obtain⟨z,i,j,k⟩:=y.vm;have n:1*esz<=16777216:=by have:=y.pos.2;omega
 have a:esz<=16777216:=by have:=y.pos.2;omega
 have c:(aa.agg cs).cells=cs:=rfl;simp[b5,y.un,y.ts,i,j,iV,h,d,a,c];have m:∀x∈z.cells,x.one=true:=by simpa using k
 rw[decide_eq_true m];rfl
def c7.app{t e:Nat}(y:ku t e K.esz){l:List α}{v:aa}(h:c7 K ok H l v){okE:Nat->Prop}{a:α}{cs:List aa}(he:K.V H okE a cs)(m:∀k b,okE k->H.get k=D b->ok' k/\∀L,v= .aB L 0 l.length K.esz C->k≠L)(j:∀k b,ok k->H.get k=D b->ok' k)(p:ok' (H.next+1))(B:l.length<=1000000000):
  ∃s H',c1 P (H.push (.row U K.esz [cs])) [t,t] v (.aB H.next 0 1 K.esz (D 1))=D (s,H')/\c7 K ok' H' (l++[a]) s/\H.next+1<=H'.next/\(∀k,k<H.next->(∀L,v= .aB L 0 l.length K.esz C->k≠L)->H'.get k=H.get k):=by
 have n:=ad.bI H (.row U K.esz [cs]);rcases h with⟨rfl,rfl⟩|⟨L,els,rfl,aE,bn,b8,dK⟩
 ·refine⟨_,_,H_ y n,.inr ⟨_,[cs],rfl,by simpa only[ad.bX]using p,ad.bI _ _,rfl,λi b d=> ?_⟩,by simp only[ad.bX];omega,λk j _=> ?_⟩
  ·rcases i with _|i
   ·cases d;refine⟨cs,rfl,K.a1 (λk b j g=> ?_) he⟩;have:=ad.aS g;exact⟨⟨(m k b j g).1,by simp only[ad.bX];omega⟩,((aO.push _ _).bE _).get g⟩
   ·simp at d
  ·rw[ad.dw (by simp only[ad.bX];omega),ad.dw af]
 ·have M:=ad.aS bn;have u:=(aO.push H (.row U K.esz [cs])).get bn;have q:∀k b,H.get k=D b->k≠L->(((H.push (.row U K.esz [cs])).set L .dead).push (.row U K.esz (els++[cs]))).get k=D b:=λk b g j=>by
   have:=ad.aS g;rw[ad.dw (by simp only[ad.ds,ad.bX];omega),ad.get_set_other af,ad.dw af];exact g
  refine⟨_,_,Ia y n u b8 B,.inr ⟨_,els++[cs],by rw[List.length_append];rfl,by simpa only[ad.ds,ad.bX]using p,ad.bI _ _,by simp[b8],λi b d=> ?_⟩,by simp only[ad.ds,ad.bX];omega,λk j E=> ?_⟩
  ·by_cases A:i<l.length
   ·rw[List.getElem?_append_left A]at d;obtain⟨c,a6,G⟩:=dK i b d;refine⟨c,by rw[List.getElem?_append_left af];exact a6,K.a1 (λk x o g=> ?_) G⟩;have:=ad.aS g;exact⟨⟨j k x o.1 g,by simp only[ad.ds,ad.bX];omega⟩,q k x g o.2⟩
   ·rw[List.getElem?_append_right af]at d;have w:i-l.length=0:=by
     rcases F:i-l.length with _|z
     ·rfl
     ·rw[F]at d;simp at d
    rw[w]at d;cases d;refine⟨cs,by rw[List.getElem?_append_right af,show i-els.length=0 by omega];rfl,K.a1 (λk x j g=> ?_) he⟩;have:=ad.aS g;exact⟨⟨(m k x j g).1,by simp only[ad.ds,ad.bX];omega⟩,q k x g ((m k x j g).2 L rfl)⟩
  ·rw[ad.dw (by simp only[ad.ds,ad.bX];omega),ad.get_set_other (by exactλe=>E L rfl e.symm),ad.dw af]
end
def px:h4 aC:=⟨1,λ_ _ s cs=>cs=[Z s],λh=>by rw[h];exact⟨rfl,rfl⟩,λ_ h=>h⟩
def Dq:ku 50 9 1:=⟨ah,x4,⟨_,(by kernel_rfl:hN P 9=D 16),bf⟩,⟨_,(by kernel_rfl:eV P 9=D (Z [])),rfl,rfl⟩,bf⟩
def FK:∀(els:List (List aa)) (l:List aC),els.length=l.length->(∀(i:Nat) (a:aC),l[i]? =D a->els[i]? =D [Z a])->l5 els=D l
 |[],[],_,_=>rfl
 |[],_::_,h,_=>by cases h
 |_::_,[],h,_=>by cases h
 |e::els,s::l,j,h=>by
  have c:=h 0 s rfl;simp only[List.getElem?_cons_zero,aV]at c;subst c;rw[l5,FK els l (by simpa using j) λi a d=>by simpa using h (i+1) a (by simpa using d)];rfl
def xN(l:Nat)(s:aC):b5 P l 50 1 [(0,Z s)]=D (.aB l 0 1 1 (D 1),.row U 1 [[Z s]]):=ah
def s7{H:ad}{ok:Nat->Prop}{l:List aC}{v:aa}(h:c7 px ok H l v){sep:aC}(k:l.length<=1000000000)(e:(Lib.join l sep).length<=140737488355328):aD P ay 59 [v,Z sep] H=D (Z (Lib.join l sep),H):=by
 refine mr ?_;rcases h with⟨rfl,rfl⟩|⟨L,els,rfl,_,bn,b8,dK⟩
 ·rfl
 ·have c:eK H L 0 l.length 1=D els:=by
   unfold eK;rw[bn];show(if px.esz=1/\0+l.length<=els.length then D ((els.drop 0).take l.length)else C)=_;rw[if_pos ⟨rfl,af⟩,List.drop_zero,List.take_of_length_le af]
  have ax:l5 els=D l:=FK els l b8 λi a d=>by
   obtain⟨cs,a6,j⟩:=dK i a d;rw[a6,show cs=[Z a]from j]
  show(match eK H L 0 l.length 1 with
   |some es=>(match l5 es with
    |some xs=>if xs.length<=140737488355328/\(Lib.join xs sep).length<=140737488355328 then D (aa.str (Lib.join xs sep),H)else C
    |none=>C)
   |none=>C)=_
  rw[c];simp only
  rw[ax];simp only
  rw[if_pos ⟨af,e⟩]
def wk:∀ks:List aA,Lib.join (ks.map λe=>flat (bd e)) [44,32]=flat (dI (cq ks))
 |[]=>rfl
 |[e]=>by rw[List.map_cons,List.map_nil,Lib.join_one,cq,cq,dI]
 |e::f::r=>by
  have a:=wk (f::r);rw[List.map_cons,Lib.join_cons,List.map_cons,Lib.joinTail,List.map_cons,List.flatten_cons];rw[List.map_cons,Lib.join_cons,Lib.joinTail]at a;have an:cq (e::f::r)=(e.b0,bd e)::(f.b0,bd f)::cq r:=by rw[cq,cq]
  have aE:cq (f::r)=(f.b0,bd f)::cq r:=by rw[cq]
  rw[an,dI,db,c2,eo,<-aE,<-a]
  ·simp only[List.append_assoc];rfl
  ·intro h;cases h
def c7.aM{α:Type}{K:h4 α}{H H':ad}{ok:Nat->Prop}{l:List α}{v:aa}(h:c7 K ok H l v)(p:aO H H'):c7 K ok H' l v:=h.a1 (dp.aM p)
section
variable {N:Nat}{H0:ad}{L i n:Nat}{cap:Option Nat}{ro:Bool}{els:List (List aa)}{ok:Nat->Prop}
def Di(B:H0.get L=D (.row ro 11 els))(E:fi.hP H0)(ah:n<=1000000000){all:List aA}(ae:(flat (dI (cq all))).length<=1000000000):∀(es:List aA) (j k:Nat) (done:List aA) (v:aa) (H:ad),all=done++es->done.length=j->(∀e∈es,sy e/\∃d,ct d 0 e)->(∀e∈es,cK e<=1000000000)->df H0 ok es (els.drop (i+j))->n=j+es.length->es.length<k->aO H0 H->c7 px (λl=>H0.next<=l) H (done.map λe=>flat (bd e)) v->
  W (lT (aD P ay) N k v (.aB L i n 11 cap) (I J n) (I J j) H) λv H'=>v= Z (flat (dI (cq all)))/\aO H0 H'
 |_,_,0,_,_,_,_,_,_,_,_,_,w,_,_=>af
 |[],j,k+1,done,v,H,m,A,ax,hw,he,o,w,pp,s=>by
  have u:¬((j:Int)<(n:Int)):=by simp at o;omega
  rw[List.append_nil]at m;subst m;have an:aD P ay 59 [v,Z [44,32]] H=D (Z (flat (dI (cq all))),H):=by
   rw[<-wk];exact s7 s (by rw[List.length_map];simp at o;omega) (by rw[wk];omega)
  simp-implicitDefEqProofs(disch:=try exact aj)only[lT,p_,oA,bh,bx,da,u,decide_false,an,eZ,bj];exact ba.2 ⟨rfl,pp⟩
 | .mk a ks::es,j,k+1,done,v,H,m,A,ax,hw,he,o,w,pp,s=>by
  simp only[List.length_cons]at o w;have u:(j:Int)<(n:Int):=af;have al:((j:Int)).toNat=j:=af;have V:(0:Int)<=(j:Int):=af;have av:IntKind.i64.wrap ((j:Int)+1)=((j+1:Nat):Int):=by rw[wrap_i64 af af];omega
  obtain⟨cs,a6,ap,aq⟩:=he.cons;obtain⟨x,au,M⟩:=hc.1 ap;cases au;obtain⟨aI,d,am⟩:=ax _ (List.mem_cons_self ..);have g1:=pp.get B;have ai:=M.ej;have p:=pp.bE (.row U 11 [a.cells x]);have G:=aI d 0 am (hw _ (List.mem_cons_self ..)) a ks rfl _ ok x (M.aM p) (E.aM p);simp only[bG.cells]at a6 p G;simp-implicitDefEqProofs(disch:=try exact aj)only[lT,p_,reduceAdd,reduceLeDiff,reduceIte,aw,u,V,al,decide_true,g1,a6,ai];refine aP G ?_;rintro _ c ⟨rfl,y⟩;refine⟨y.1,?_⟩;have q:=p.trans y;have z:=(s.aM (aO.push H (.row U 11 [a.cells x]))).aM y;have ak:b5 P c.next 50 1 [(0,Z (flat (bd (.mk a ks))))]=D (.aB c.next 0 1 1 (D 1),.row U 1 [[Z (flat (bd (.mk a ks)))]]):=xN _ _
  have aC:done.length<=1000000000:=af;obtain⟨O,H',an,Q,R,b3⟩:=c7.app (K:=px) (ok':=λl=>H0.next<=l) Dq z (okE:=λ_=>False) (a:=flat (bd (.mk a ks))) (cs:=[Z (flat (bd (.mk a ks)))]) rfl (λ_ _ h=>h.elim) (λ_ _ h _=>h) (by have:=q.1;show H0.next<=c.next+1;omega) (by rw[List.length_map];omega);have ao:aO H0 H':=by
   refine⟨by have:=q.1;omega,λl ag=> ?_⟩;have:=q.1;rw[b3 l af λL F ab=> ?_]
   ·exact q.2 l ag
   ·subst ab;rcases z with⟨rfl,_⟩|⟨L',_,rfl,az,_⟩
    ·cases F
    ·cases F;omega
  have T:c1 P (c.push (.row U 1 [[Z (flat (bd (.mk a ks)))]])) [50,50] v (.aB c.next 0 1 1 (D 1))=D (O,H'):=an;have S:(c.push (.row U 1 [[Z (flat (bd (.mk a ks)))]])).next<=H'.next:=by rw[ad.bX];exact R
  simp-implicitDefEqProofs(disch:=try exact aj)only[bh,bx,ak,T,eZ,S,da,av];exact Di B E ah ae es (j+1) k (done++[.mk a ks]) O H' (by rw[m,List.append_assoc];rfl) (by rw[List.length_append,A];rfl) (λe h=>ax e (List.mem_cons_of_mem _ h)) (λe h=>hw e (List.mem_cons_of_mem _ h)) (by rw[show i+(j+1)=i+j+1 by omega];exact aq) af af ao (by rw[List.map_append];exact Q)
end
def KN{H:ad}{ok:Nat->Prop}{ks:List aA}{kv:aa}(h:cg H ok ks kv)(k:fi.hP H)(ax:∀e∈ks,sy e/\∃d,ct d 0 e)(hw:∀e∈ks,cK e<=1000000000)(p:ks.length<=100000000)(n:(flat (dI (cq ks))).length<=1000000000):W (aD P ay 45 [kv] H) λv H'=>v= Z (flat (dI (cq ks)))/\aO H H':=by
 refine cF (λ_=>Mp (ks.length+1)) ?_;have j:=λH'=>h.q0 H'
 rw[ub];simp-implicitDefEqProofs(disch:=try exact aj)only[reduceAdd,reduceLeDiff,reduceIte,aw,j];by_cases c:ks.length=0
 ·obtain rfl:=List.length_eq_zero_iff.1 c;have m:¬((0:Int)<(0:Int)):=af;have an:aD P ay 59 [.ar,Z [44,32]] H=D (Z [],H):=s7 (ok:=λ_=>True) (l:=[]) (.inl ⟨rfl,rfl⟩) (Nat.zero_le _) (Nat.zero_le _);simp-implicitDefEqProofs(disch:=try exact aj)only[lT,p_,oA,reduceAdd,reduceLeDiff,reduceIte,aw,m,decide_false,an,eZ,Int.natCast_zero];exact ba.2 ⟨rfl,.refl _⟩
 ·rcases h with⟨_,a⟩|⟨L,i,cap,ro,els,rfl,_,g1,o⟩|⟨_,_,_,_,a⟩
  ·exact absurd a c
  ·exact Di (N:=ks.length+1) g1 k af n ks 0 (ks.length+1) [] .ar H rfl rfl ax hw (by rw[Nat.add_zero];exact o) af af (.refl _) (.inl ⟨rfl,rfl⟩)
  ·exact absurd a c
open Classical in
def Kg{H:ad}(c:fi.hP H){n:Int}(d:0<=n)(a:n<=9223372036854775807):aD P ay 42 [I J n] H=D (Z (fY 20 n.toNat []),H):=by
 refine mr ?_;show(if-9223372036854775808<=n/\n<=9223372036854775807/\H.get 0=D (.row X 1 jN)then D (aa.str (Lib.itoa n),H)else C)=_;rw[if_pos ⟨af,a,c.uB⟩];unfold Lib.itoa;rw[if_neg af,IY n.toNat n.toNat (bj _) 19 [] (by have:=rQ;omega),List.append_nil]
def A5{H:ad}(b:Bool):aD P ay 43 [.bool b] H=D (Z (bif b then[116,114,117,101]else[102,97,108,115,101]),H):=by
 refine mr ?_;show D (aa.str (Lib.formatBool b),H)=_;cases b<;>rfl
def bC:∀e:aA,sy e
 | .mk a ks=>by
  have ax:∀e∈ks,sy e:=λe he=>bC e
  intro d m aC hw a' a5 he H ok kv M aF;cases he;have h:=aC.low (m':=0) (Nat.zero_le _);clear aC;have hlen:=pE h;have aS:=M.ej;have ag:∀l,dO l (.agg (a.cells kv))=D (.ptr l 0 0,.row U 11 [a.cells kv]):=λl=>hk l _ (by simp only[bG.cells,List.all_cons,List.all_nil,gF,hp,aS,Bool.and_self])
  have pp:=aO.push H (.row U 11 [a.cells kv]);have dr:=ad.bI H (.row U 11 [a.cells kv]);have V:∀{O m':Nat} {b:bG} {i:List aA},aA.mk b i∈ks->ct O m' (.mk b i)->cK (.mk b i)<=1000000000/\∀(H':ad) (K:aa),cg H' ok i K->aO H H'->W (aD P ay 16 [.agg (b.cells K)] H') λr ak=>r= Z (flat (bd (.mk b i)))/\aO H' ak:=by
   intro O m' b i hm v;have hle:cK (.mk b i)<=b7 ks:=by
    clear ax hlen M hw h ag pp dr
    induction ks with
    |nil=>cases hm
    |cons k r aX=>
     rw[b7];rcases List.mem_cons.1 hm with rfl|hm
     ·omega
     ·have:=aX hm;omega
   rw[cK]at hw;have aG:cK (.mk b i)<=1000000000:=af;exact⟨aG,λH' K ah av=>ax _ hm O m' v aG b i rfl H' ok K ah (aF.aM av)⟩
  have fx:∀{O m':Nat} {b:bG} {i:List aA} (n:Nat) {z:Int},z=n->aA.mk b i∈ks->ct O m' (.mk b i)->∀(H':ad) (K:aa),cg H' ok i K->aO H H'->W (aD P ay 44 [.agg (b.cells K),I J z] H') λr ak=>r= Z (flat (bV n (.mk b i)))/\aO H' ak:=by
   intro O m' b i n z aV hm v H' K ah av;subst aV;obtain⟨y,q⟩:=V hm v;have:=pE v;exact PZ ah.ej (λN Q=>q N K (ah.aM Q) (av.trans Q)) af
  have aN:ks.length<=1000000000:=by have:=pD ks;rw[cK]at hw;omega
  refine cF (λ_=>E3 0) ?_;have au:=Cx (M.aM pp) aN;simp only[bG.cells]at ag pp dr au ⊢;rw[rZ];simp-implicitDefEqProofs(disch:=try exact aj)only[reduceAdd,reduceLeDiff,reduceIte,aw,ag];refine aP au ?_;rintro _ N ⟨b,E,rfl,bO,ao,Q⟩;refine⟨Q.1,?_⟩;have R:=Q.bE (.row U 11 [b.cells E]);have u:=pp.trans R;have s:=R.get dr;have g3:=ad.bI N (.row U 11 [b.cells E]);have L:∀cl i r,ks= .mk cl i::r->b=cl/\cg (N.push (.row U 11 [b.cells E])) ok i E:=λcl i r h=>⟨(ao cl i r h).1,(ao cl i r h).2.aM R⟩
  simp only[bG.cells]at R u s g3 L;clear au ao;simp-implicitDefEqProofs(disch:=try exact aj)only[reduceAdd,reduceLeDiff,reduceIte,aw,bO,s];have ai:=M.aM u;have ap:=aF.aM u;generalize N.next=a7 at g3 ⊢
  generalize N.push (.row U 11 [[I J b.kind,I J b.n,Z b.name,Z b.cf,I J b.cS,E,I J b.pos,I J b.nq,I J b.qp,I J b.ld,I J b.ref]])=T at R u s g3 L ai ap ⊢;clear Q R ag pp dr;generalize H.next=a6 at s ⊢
  clear N;cases h with
  |par y q w=>omega
  | @int d m n p y q w=>
   have an:=Kg ap q w;simp-implicitDefEqProofs(disch:=try exact aj)only[reduceAdd,reduceLeDiff,reduceIte,aw,Int.reduceBEq,s,an,eZ];refine ba.2 ⟨?_,u⟩;rw[dH];show _=aa.str (flat [.t ⟨2,[],n,0⟩]);simp[flat,bF.oW,g_]
  | @bool d m n p y q=>
   have an:aD P ay 43 [.bool X] T=D (Z [116,114,117,101],T):=A5 X;have aE:aD P ay 43 [.bool U] T=D (Z [102,97,108,115,101],T):=A5 U;rcases q with rfl|rfl
   ·simp-implicitDefEqProofs(disch:=try exact aj)only[reduceAdd,reduceLeDiff,reduceIte,aw,Int.reduceBEq,Int.reduceBNe,s,an,aE,eZ];exact ba.2 ⟨by rw[dH];rfl,u⟩
   ·simp-implicitDefEqProofs(disch:=try exact aj)only[reduceAdd,reduceLeDiff,reduceIte,aw,Int.reduceBEq,Int.reduceBNe,s,an,aE,eZ];exact ba.2 ⟨by rw[dH];rfl,u⟩
  | @null d m x z p y q=>
   simp-implicitDefEqProofs(disch:=try exact aj)only[reduceAdd,reduceLeDiff,reduceIte,aw,Int.reduceBEq,s];refine aP (type20 q.1 q.2.1 (by have:=gU q;omega)) ?_;rintro _ F ⟨rfl,o⟩;refine⟨o.1,?_⟩;have a0:=jd x z;have:=gU q;have:=q.2.1;have an:aq P .add 9 X (Z [110,117,108,108,32]) (Z (flat (cj x z)))=D (Z ([110,117,108,108,32]++flat (cj x z))):=c4 (by simp only[List.length_cons,List.length_nil];omega);simp only[an,dT];exact ba.2 ⟨by rw[dH];rfl,u.trans o⟩
  | @var d m x p y q=>
   simp-implicitDefEqProofs(disch:=try exact aj)only[reduceAdd,reduceLeDiff,reduceIte,aw,Int.reduceBEq,s];exact ba.2 ⟨by rw[dH];show _=aa.str (flat [cp x]);rw[ja,c5,List.append_nil],u⟩
  | @field d m x p e y q w=>
   obtain⟨cl,i⟩:=e;obtain⟨rfl,A⟩:=L _ _ _ rfl;rw[mE,c3]at hlen;have v:=fx 7 rfl (by simp) w _ E A u;simp only[bG.cells]at v;simp-implicitDefEqProofs(disch:=try exact aj)only[reduceAdd,reduceLeDiff,reduceIte,aw,Int.reduceBEq,s,g3];refine aP v ?_;rintro _ F ⟨rfl,o⟩;refine⟨o.1,?_⟩;have G:=o.get s;have:=e5 q;have an:aq P .add 9 X (Z (flat (bV 7 (.mk b i)))) (Z [46])=D (Z (flat (bV 7 (.mk b i))++[46])):=c4 (by simp only[List.length_cons,List.length_nil];omega);have aE:aq P .add 9 U (Z (flat (bV 7 (.mk b i))++[46])) (Z x)=D (Z (flat (bV 7 (.mk b i))++[46]++x)):=c4 (by simp only[List.length_append,List.length_cons,List.length_nil];omega)
   simp-implicitDefEqProofs(disch:=try exact aj)only[reduceAdd,reduceLeDiff,reduceIte,aw,s,G,an,aE];exact ba.2 ⟨by rw[mE,db,c2,ja,c5];simp,u.trans o⟩
  | @item d m p e f y q w=>
   obtain⟨cl,i⟩:=e;obtain⟨c,cs⟩:=f;obtain⟨rfl,A⟩:=L _ _ _ rfl;obtain⟨l',aW,aI,aY,aJ,kw,rfl,am,az,ab⟩:=ai.jA (n:=2) rfl (j:=1) rfl;rw[mF,c3,dj,c3]at hlen;have v:=fx 7 rfl (by simp) q _ E A u;simp only[bG.cells]at v;simp-implicitDefEqProofs(disch:=try exact aj)only[reduceAdd,reduceLeDiff,reduceIte,aw,Int.reduceBEq,s,g3];refine aP v ?_;rintro _ F ⟨rfl,o⟩;refine⟨o.1,?_⟩;have G:=o.get s;simp-implicitDefEqProofs(disch:=try exact aj)only[reduceAdd,reduceLeDiff,reduceIte,aw,G];refine aP (s8 (j:=1) rfl af ab.ej (o.get am) az) ?_;rintro _ al ⟨rfl,B⟩;refine⟨B.1,?_⟩;have aU:=(V (by simp) w).2 al kw (ab.aM (o.trans B)) ((u.trans o).trans B)
   refine aP aU ?_;rintro _ aH ⟨rfl,ae⟩;refine⟨ae.1,?_⟩;have an:aq P .add 9 X (Z (flat (bV 7 (.mk b i)))) (Z [91])=D (Z (flat (bV 7 (.mk b i))++[91])):=c4 (by simp only[List.length_cons,List.length_nil];omega);have aE:aq P .add 9 U (Z (flat (bV 7 (.mk b i))++[91])) (Z (flat (bd (.mk c cs))))=D (Z (flat (bV 7 (.mk b i))++[91]++flat (bd (.mk c cs)))):=c4 (by simp only[List.length_append,List.length_cons,List.length_nil];omega);have bn:aq P .add 9 X (Z (flat (bV 7 (.mk b i))++[91]++flat (bd (.mk c cs)))) (Z [93])=D (Z (flat (bV 7 (.mk b i))++[91]++flat (bd (.mk c cs))++[93])):=c4 (by simp only[List.length_append,List.length_cons,List.length_nil];omega)
   simp-implicitDefEqProofs(disch:=try exact aj)only[reduceAdd,reduceLeDiff,reduceIte,aw,s,G,an,aE,bn];exact ba.2 ⟨by rw[mF,db,c2,db,c2,c5];simp,((u.trans o).trans B).trans ae⟩
  | @call d m x p l y q w=>
   have:=e5 q;rw[cK]at hw hlen;simp only at hw hlen;rw[mD,mz,dj,c3]at hlen;have a3:=pD ks;have aQ:(flat (dI (cq ks))).length<=1000000000:=af;have v:=KN ai ap (λe he=>⟨ax e he,_,w e he⟩) (λe he=>by
    obtain⟨c,cs⟩:=e;exact(V he (w _ he)).1) af aQ
   simp-implicitDefEqProofs(disch:=try exact aj)only[reduceAdd,reduceLeDiff,reduceIte,aw,Int.reduceBEq,s];refine aP v ?_;rintro _ F ⟨rfl,o⟩;refine⟨o.1,?_⟩;have G:=o.get s;have an:aq P .add 9 X (Z x) (Z [40])=D (Z (x++[40])):=c4 (by simp only[List.length_cons,List.length_nil];omega);have aE:aq P .add 9 U (Z (x++[40])) (Z (flat (dI (cq ks))))=D (Z (x++[40]++flat (dI (cq ks)))):=c4 (by simp only[List.length_append,List.length_cons,List.length_nil];omega);have bn:aq P .add 9 X (Z (x++[40]++flat (dI (cq ks)))) (Z [41])=D (Z (x++[40]++flat (dI (cq ks))++[41])):=c4 (by simp only[List.length_append,List.length_cons,List.length_nil];omega)
   simp-implicitDefEqProofs(disch:=try exact aj)only[reduceAdd,reduceLeDiff,reduceIte,aw,s,G,an,aE,bn];exact ba.2 ⟨by rw[mD,ja,c2,db,c2,c5];simp,u.trans o⟩
  | @new d m x p y q=>
   have a4:=e5 q;simp-implicitDefEqProofs(disch:=try exact aj)only[reduceAdd,reduceLeDiff,reduceIte,aw,Int.reduceBEq,s];refine aP (type20 (x:=x) (z:=0) (Int.le_refl 0) af af) ?_;rintro _ F ⟨rfl,o⟩;refine⟨o.1,?_⟩;have aT:flat (cj x 0)=x:=by rw[vL];simp[ht]
   rw[aT];have an:aq P .add 9 X (Z [110,101,119,32]) (Z x)=D (Z ([110,101,119,32]++x)):=c4 (by simp only[List.length_cons,List.length_nil];omega);simp only[an,dT];exact ba.2 ⟨by rw[dH];show _=aa.str (flat [wd [110,101,119],cA,cp x]);rw[hl,eo,ja,c5];simp,u.trans o⟩
  | @make d m x z p e y q w=>
   obtain⟨cl,i⟩:=e;obtain⟨rfl,A⟩:=L _ _ _ rfl;rw[mH,hU,eP,dj,c3,dj,dj,c3]at hlen;simp-implicitDefEqProofs(disch:=try exact aj)only[reduceAdd,reduceLeDiff,reduceIte,aw,Int.reduceBEq,s];refine aP (type20 q.1 q.2.1 (by have:=gU q;omega)) ?_;rintro _ F ⟨rfl,o⟩;refine⟨o.1,?_⟩;have G:=o.get s;have g4:=o.get g3;have v:=(V (by simp) w).2 F E (A.aM o) (u.trans o);simp only[bG.cells]at v;simp-implicitDefEqProofs(disch:=try exact aj)only[reduceAdd,reduceLeDiff,reduceIte,aw,g4];refine aP v ?_;rintro _ al ⟨rfl,B⟩;refine⟨B.1,?_⟩;have an:aq P .add 9 X (Z [110,101,119,32,91]) (Z (flat (cj x z)))=D (Z ([110,101,119,32,91]++flat (cj x z))):=c4 (by simp only[List.length_cons,List.length_nil];omega)
   have aE:aq P .add 9 X (Z ([110,101,119,32,91]++flat (cj x z))) (Z [93,40])=D (Z ([110,101,119,32,91]++flat (cj x z)++[93,40])):=c4 (by simp only[List.length_append,List.length_cons,List.length_nil];omega);have bn:aq P .add 9 U (Z ([110,101,119,32,91]++flat (cj x z)++[93,40])) (Z (flat (bd (.mk b i))))=D (Z ([110,101,119,32,91]++flat (cj x z)++[93,40]++flat (bd (.mk b i)))):=c4 (by simp only[List.length_append,List.length_cons,List.length_nil];omega);have b8:aq P .add 9 X (Z ([110,101,119,32,91]++flat (cj x z)++[93,40]++flat (bd (.mk b i)))) (Z [41])=D (Z ([110,101,119,32,91]++flat (cj x z)++[93,40]++flat (bd (.mk b i))++[41])):=c4 (by simp only[List.length_append,List.length_cons,List.length_nil];omega)
   have S:=rT (a:=b) A.beq;simp only[bG.cells]at S;rw[an,dT,aE,dT,bn,dT,b8,dT];simp-implicitDefEqProofs(disch:=try exact aj)only[reduceAdd,reduceLeDiff,reduceIte,aw,g3,g4,S];exact ba.2 ⟨by rw[mH,hl,eo,c2,db,c2,c2,db,c2,c5];simp,(u.trans o).trans B⟩
  | @len d m p e y q=>
   obtain⟨cl,i⟩:=e;obtain⟨rfl,A⟩:=L _ _ _ rfl;rw[mG,hU,dj,c3]at hlen;have v:=(V (by simp) q).2 T E A u;simp only[bG.cells]at v;simp-implicitDefEqProofs(disch:=try exact aj)only[reduceAdd,reduceLeDiff,reduceIte,aw,Int.reduceBEq,s,g3];refine aP v ?_;rintro _ F ⟨rfl,o⟩;refine⟨o.1,?_⟩;have an:aq P .add 9 X (Z [108,101,110,40]) (Z (flat (bd (.mk b i))))=D (Z ([108,101,110,40]++flat (bd (.mk b i)))):=c4 (by simp only[List.length_cons,List.length_nil];omega);have aE:aq P .add 9 X (Z ([108,101,110,40]++flat (bd (.mk b i)))) (Z [41])=D (Z ([108,101,110,40]++flat (bd (.mk b i))++[41])):=c4 (by simp only[List.length_append,List.length_cons,List.length_nil];omega)
   rw[an,dT,aE,dT];exact ba.2 ⟨by rw[mG,hl,c2,db,c2,c5];simp,u.trans o⟩
  | @read d m p y=>
   simp-implicitDefEqProofs(disch:=try exact aj)only[reduceAdd,reduceLeDiff,reduceIte,aw,Int.reduceBEq,s];exact ba.2 ⟨by rw[dH];rfl,u⟩
  | @sign d m k p e y q w=>
   obtain⟨cl,i⟩:=e;obtain⟨rfl,A⟩:=L _ _ _ rfl;rw[kP q,dj]at hlen;have v:=fx 6 rfl (by simp) w _ E A u;simp only[bG.cells]at v;have S:=rT (a:=b) A.beq;simp only[bG.cells]at S;rcases q with rfl|rfl
   ·simp-implicitDefEqProofs(disch:=try exact aj)only[reduceAdd,reduceLeDiff,reduceIte,aw,Int.reduceBEq,s,lN];refine aP (Fp (.inl rfl)) ?_;rintro _ _ ⟨rfl,rfl⟩;refine⟨bj _,?_⟩;simp-implicitDefEqProofs(disch:=try exact aj)only[reduceAdd,reduceLeDiff,reduceIte,aw,g3];refine aP v ?_;rintro _ F ⟨rfl,o⟩;refine⟨o.1,?_⟩;have an:aq P .add 9 U (Z (bif (12:Int)==12 then[45]else[33])) (Z (flat (bV 6 (.mk b i))))=D (Z ([45]++flat (bV 6 (.mk b i)))):=c4 (t:=9) (a:=[45]) (by simp only[List.length_cons,List.length_nil];omega);simp-implicitDefEqProofs(disch:=try exact aj)only[reduceAdd,reduceLeDiff,reduceIte,aw,an,g3,S]
    exact ba.2 ⟨by rw[kP (.inl rfl),c2];rfl,u.trans o⟩
   ·simp-implicitDefEqProofs(disch:=try exact aj)only[reduceAdd,reduceLeDiff,reduceIte,aw,Int.reduceBEq,s,lN];refine aP (Fp (.inr rfl)) ?_;rintro _ _ ⟨rfl,rfl⟩;refine⟨bj _,?_⟩;simp-implicitDefEqProofs(disch:=try exact aj)only[reduceAdd,reduceLeDiff,reduceIte,aw,g3];refine aP v ?_;rintro _ F ⟨rfl,o⟩;refine⟨o.1,?_⟩;have an:aq P .add 9 U (Z (bif (13:Int)==12 then[45]else[33])) (Z (flat (bV 6 (.mk b i))))=D (Z ([33]++flat (bV 6 (.mk b i)))):=c4 (t:=9) (a:=[33]) (by simp only[List.length_cons,List.length_nil];omega);simp-implicitDefEqProofs(disch:=try exact aj)only[reduceAdd,reduceLeDiff,reduceIte,aw,an,g3,S]
    exact ba.2 ⟨by rw[kP (.inr rfl),c2];rfl,u.trans o⟩
  | @bin d m k p e f y q w aK aL=>
   obtain⟨cl,i⟩:=e;obtain⟨c,cs⟩:=f;obtain⟨rfl,A⟩:=L _ _ _ rfl;obtain⟨l',aW,aI,aY,aJ,kw,rfl,am,az,ab⟩:=ai.jA (n:=2) rfl (j:=1) rfl;rw[mC q,c3,eP,dj,eP]at hlen;have a2:=wI q w;have cC:∀m:Int,m<14->(k==m)=false:=λm h=>by simp;omega
   have aZ:IntKind.i64.wrap (((cm k:Nat):Int)+1)=((cm k+1:Nat):Int):=by have:=wP k;rw[wrap_i64 af af];omega
   have v:=fx (cm k) rfl (by simp) aK _ E A u;simp only[bG.cells]at v;simp-implicitDefEqProofs(disch:=try exact aj)only[reduceAdd,reduceLeDiff,reduceIte,aw,s,cC 1 af,cC 2 af,cC 3 af,cC 4 af,cC 5 af,cC 6 af,cC 7 af,cC 8 af,cC 9 af,cC 10 af,cC 11 af,cC 12 af,cC 13 af,lN];unfold mR;simp-implicitDefEqProofs(disch:=try exact aj)only[reduceAdd,reduceLeDiff,reduceIte,aw,s];refine aP (OV q w) ?_;rintro _ _ ⟨rfl,rfl⟩;refine⟨bj _,?_⟩;have a1:(ez k != [])=true:=by
    have M:k=14\/k=15\/k=16\/k=17\/k=18\/k=19\/k=20\/k=21\/k=22\/k=23\/k=24:=af;rcases M with rfl|rfl|rfl|rfl|rfl|rfl|rfl|rfl|rfl|rfl|rfl<;>rfl
   have aR:aq P .neq 9 X (Z (ez k)) (Z [])=D (.bool X):=by
    have M:k=14\/k=15\/k=16\/k=17\/k=18\/k=19\/k=20\/k=21\/k=22\/k=23\/k=24:=af;rcases M with rfl|rfl|rfl|rfl|rfl|rfl|rfl|rfl|rfl|rfl|rfl<;>rfl
   simp-implicitDefEqProofs(disch:=try exact aj)only[bh,bx,aR,reduceAdd,reduceLeDiff,reduceIte,aw,s];refine aP Dr ?_;rintro _ _ ⟨rfl,rfl⟩;refine⟨bj _,?_⟩;simp-implicitDefEqProofs(disch:=try exact aj)only[reduceAdd,reduceLeDiff,reduceIte,aw,g3];refine aP v ?_;rintro _ F ⟨rfl,o⟩;refine⟨o.1,?_⟩;have G:=o.get s;simp-implicitDefEqProofs(disch:=try exact aj)only[reduceAdd,reduceLeDiff,reduceIte,aw,G];refine aP (s8 (j:=1) rfl af ab.ej (o.get am) az) ?_;rintro _ al ⟨rfl,B⟩;refine⟨B.1,?_⟩;simp-implicitDefEqProofs(disch:=try exact aj)only[reduceAdd,reduceLeDiff,reduceIte,aw,aZ];refine aP (fx (cm k+1) rfl (by simp) aL _ kw (ab.aM (o.trans B)) ((u.trans o).trans B)) ?_
   rintro _ aH ⟨rfl,ae⟩;refine⟨ae.1,?_⟩;have an:aq P .add 9 X (Z (flat (bV (cm k) (.mk b i)))) (Z [32])=D (Z (flat (bV (cm k) (.mk b i))++[32])):=c4 (by simp only[List.length_cons,List.length_nil];omega);have aE:aq P .add 9 U (Z (flat (bV (cm k) (.mk b i))++[32])) (Z (ez k))=D (Z (flat (bV (cm k) (.mk b i))++[32]++ez k)):=c4 (by simp only[List.length_append,List.length_cons,List.length_nil];omega);have bn:aq P .add 9 X (Z (flat (bV (cm k) (.mk b i))++[32]++ez k)) (Z [32])=D (Z (flat (bV (cm k) (.mk b i))++[32]++ez k++[32])):=c4 (by simp only[List.length_append,List.length_cons,List.length_nil];omega)
   have b8:aq P .add 9 U (Z (flat (bV (cm k) (.mk b i))++[32]++ez k++[32])) (Z (flat (bV (cm k+1) (.mk c cs))))=D (Z (flat (bV (cm k) (.mk b i))++[32]++ez k++[32]++flat (bV (cm k+1) (.mk c cs)))):=c4 (by simp only[List.length_append,List.length_cons,List.length_nil];omega);rw[an,dT,aE,dT,bn,dT,b8,dT];simp-implicitDefEqProofs(disch:=try exact aj)only[reduceAdd,reduceLeDiff,reduceIte,aw,s,G];exact ba.2 ⟨by rw[mC q,db,eo,c2,eo];simp,((u.trans o).trans B).trans ae⟩
section
set_option maxRecDepth 100000
noncomputable section
def uj(G:az)(ag av:aa)(H:ad):O:=aJ H (G 80 [ag] H) λn a=>j (b6 ag) λe=>j (aH P 79 e 1) λh=>j (ak P a 77 h) λi=>aJ a (c1 P a [77,9] i av) λk c=>j (b6 ag) λl=>j (aH P 79 l 1) λbC=>a8 c (aU P c 77 bC k) λd=>bh P .len [9] [av] d λm=>D (.tuple [m,aa.nilIface],d)
def Mz(N:Nat){ag av:aa}{H:ad}{r:aa×ad}(h:uj (aD P ay) ag av H=D r):aD P ay 57 [ag,av] H=D r:=cV N (S:=λG=>uj G ag av H) Tryd.func57 (λ_=>by delta uj;kernel_rfl) h
def uk(G:az)(ag av:aa)(H:ad):O:=aJ H (G 80 [ag] H) λbq a=>j (b6 ag) λn=>j (aH P 79 n 1) λh=>j (ak P a 77 h) λi=>bZ a (b5 P (a).next 77 1 [(0,av)]) λk c=>aJ c (c1 P c [77,77] i k) λl d=>j (b6 ag) λm=>j (aH P 79 m 1) λbC=>a8 d (aU P d 77 bC l) λe=>D (aa.nilIface,e)
def MA(N:Nat){ag av:aa}{H:ad}{r:aa×ad}(h:uk (aD P ay) ag av H=D r):aD P ay 58 [ag,av] H=D r:=cV N (S:=λG=>uk G ag av H) Tryd.func58 (λ_=>by delta uk;kernel_rfl) h
end
end
section
set_option maxRecDepth 100000
noncomputable section
def p4(G:az)(N:Nat)(ag:aa)(H:ad):O:=j (b6 ag) λc=>j (aH P 81 c 0) λd=>aJ H (G 58 [d,I .u8 10] H) λe a=>D (.tuple [],a)
def Nu(G:az)(N:Nat):∀ae H,br P G N (o (o (bD Tryd.f29))) (bm Tryd.f29) [] (bm Tryd.f29) ae H=p4 G N (ae 0) H:=by
 refine bS (aL _) λae H=> ?_
 delta p4;kernel_rfl
def r0(G:az)(N:Nat)(d:aa->aa->aa->aa->ad->O)(ag a:aa)(c bC:aa)(H:ad):O:=j (aq P .lss 3 U bC c) λh=>aX (D h) (j (cM P 50 a bC) λi=>j (ak P H 9 i) λk=>j (b6 ag) λl=>j (aH P 81 l 0) λm=>aJ H (G 57 [m,k] H) λo e=>j (aq P .add 3 X bC (I J 1)) λn=>d ag a c n e) (p4 G N ag H)
def mT(G:az)(N:Nat):Nat->aa->aa->aa->aa->ad->O
 |0,_,_,_,_,_=>C
 |n+1,ag,a,c,bC,H=>r0 G N (mT G N n) ag a c bC H
def Nt(G:az)(N:Nat)(c:aa->aa->aa->aa->ad->O):∀ae H,br P G N (a7 (a7 (o (a7 (o (bD Tryd.f29)))))) (λae H=>c (ae 0) (ae 14) (ae 15) (ae 16) H) [(0,(λae H=>p4 G N (ae 0) H))] (bm Tryd.f29) ae H=r0 G N c (ae 0) (ae 14) (ae 15) (ae 16) H:=by
 refine bS (aL _) λae H=> ?_
 delta r0;generalize p4 G N=a;revert a;refine id ?_;intro a;kernel_rfl
def tX(G:az)(N:Nat)(ag av d:aa)(H:ad):O:=aJ H (G 54 [Z [32,32],av] H) λh a=>j (b6 ag) λk=>j (aH P 81 k 0) λe=>aJ a (G 57 [e,h] a) λl c=>bh P .len [50] [d] c λi=>mT G N N ag d i (I J 0) c
def Mh(N:Nat){ag av a:aa}{H:ad}{r:aa×ad}(h:tX (aD P ay) N ag av a H=D r):aD P ay 29 [ag,av,a] H=D r:=cV N (S:=λG=>tX G N ag av a H) Tryd.func29 (λG=>dY ((aQ ah ((aQ ah (Nu G N) ((aQ ah ((dm ah ((eB (k:=λm ae H=>mT G N m (ae 0) (ae 14) (ae 15) (ae 16) H) ah (λae H=>ah) (λm=>Nt G N (mT G N m)))))) (aL _))))) (aL _))) (by delta tX;generalize mT G N N=c;revert c;refine id ?_;intro c;kernel_rfl)) h
def p6(G:az)(N:Nat)(k:aa->aa->aa->aa->aa->ad->O)(ag av:aa)(h i c:aa)(H:ad):O:=j (aq P .lss 3 U c i) λm=>aX (D m) (j (cM P 71 h c) λn=>j (ak P H 112 n) λo=>cn H [I J 0,Z [],Z [],I J 0,aa.ar,aa.ar,aa.ar,I J 0,I J 0] λe d=>a8 d (aU P d 112 e o) λa=>j (ak P a 112 e) λbC=>aJ a (G 60 [ag,av,bC] a) λq l=>j (aq P .add 3 X c (I J 1)) λp=>k ag av h i p l) (D (.tuple [],H))
def lR(G:az)(N:Nat):Nat->aa->aa->aa->aa->aa->ad->O
 |0,_,_,_,_,_,_=>C
 |n+1,ag,av,c,d,a,H=>p6 G N (lR G N n) ag av c d a H
def Ny(G:az)(N:Nat)(a:aa->aa->aa->aa->aa->ad->O):∀ae H,br P G N (a7 (a7 (o (bD Tryd.f31)))) (λae H=>a (ae 0) (ae 1) (ae 8) (ae 9) (ae 10) H) [(0,(bm Tryd.f31))] (bm Tryd.f31) ae H=p6 G N a (ae 0) (ae 1) (ae 8) (ae 9) (ae 10) H:=by
 refine bS (aL _) λae H=> ?_
 delta p6;kernel_rfl
def tZ(G:az)(N:Nat)(ag av a:aa)(H:ad):O:=bh P .len [71] [a] H λc=>lR G N N ag av a c (I J 0) H
def Mj(N:Nat){ag av a:aa}{H:ad}{r:aa×ad}(h:tZ (aD P ay) N ag av a H=D r):aD P ay 31 [ag,av,a] H=D r:=cV N (S:=λG=>tZ G N ag av a H) Tryd.func31 (λG=>dY ((aQ ah ((dm ah ((eB (k:=λm ae H=>lR G N m (ae 0) (ae 1) (ae 8) (ae 9) (ae 10) H) ah (λae H=>ah) (λm=>Ny G N (lR G N m)))))) (aL _))) (by delta tZ;generalize lR G N N=c;revert c;refine id ?_;intro c;kernel_rfl)) h
def oH(G:az)(ag av:aa)(H:ad):O:=bZ H (D (.aB (H).next 0 1 1 (D 1),.row U 1 [[Z [125]]])) λd a=>aJ a (G 29 [ag,av,d] a) λe c=>D (.tuple [],c)
def Oa(G:az)(N:Nat):∀ae H,br P G N (o (o (o (a7 (o (o (o (o (o (o (o (o (o (a7 (o (o (o (bD Tryd.f60)))))))))))))))))) (bm Tryd.f60) [(0,(bm Tryd.f60))] (bm Tryd.f60) ae H=oH G (ae 0) (ae 1) H:=by
 refine bS (aL _) λae H=> ?_
 delta oH;kernel_rfl
def um(G:az)(ag av ah:aa)(H:ad):O:=bZ H (dO (H).next ah) λe n=>j (aH P 112 e 3) λaR=>j (ak P n 41 aR) λaV=>aJ n (G 41 [aV,I J 0] n) λA s=>aJ s (G 16 [A] s) λk o=>j (aH P 112 e 3) λp=>j (ak P o 41 p) λq=>aJ o (G 41 [q,I J 1] o) λab y=>aJ y (G 16 [ab] y) λae c=>bif ((bl (ak P n 41 p) q&&(bl (ak P s 41 p) q&&(bl (ak P o 41 p) q&&X)))&&X)then(j (aH P 112 e 0) λbC=>j (ak P c 3 bC) λi=>j (aq P .eql 3 X i (I J 1)) λaf=>aX (D af) (j (aH P 112 e 2) λai=>j (ak P c 40 ai) λaj=>aJ c (G 20 [aj] c) λal a=>j (aH P 112 e 1) λu=>j (ak P a 9 u) λv=>bZ a (b5 P (a).next 50 5 [(0,(Z [118,97,114,32])),(1,v),(2,(Z [58,32])),(3,al),(4,(Z [59]))]) λam d=>aJ d (G 29 [ag,av,am] d) λa7 h=>bif ((bl (ak P c 9 u) v&&(bl (ak P a 9 u) v&&X))&&X)then(D (.tuple [],h))else C) (j (aq P .eql 3 X i (I J 2)) λan=>aX (D an) (j (aH P 112 e 2) λao=>j (ak P c 40 ao) λap=>aJ c (G 20 [ap] c) λau a=>j (aH P 112 e 1) λw=>j (ak P a 9 w) λx=>bZ a (b5 P (a).next 50 7 [(0,(Z [108,101,116,32])),(1,x),(2,(Z [58,32])),(3,au),(4,(Z [32,61,32])),(5,k),(6,(Z [59]))]) λaw d=>aJ d (G 29 [ag,av,aw] d) λa8 h=>bif ((bl (ak P c 9 w) x&&(bl (ak P a 9 w) x&&X))&&X)then(D (.tuple [],h))else C) (j (aq P .eql 3 X i (I J 3)) λax=>aX (D ax) (j (aH P 112 e 1) λay=>j (ak P c 9 ay) λaA=>bZ c (b5 P (c).next 50 4 [(0,aA),(1,(Z [32,61,32])),(2,k),(3,(Z [59]))]) λaC a=>aJ a (G 29 [ag,av,aC] a) λa9 d=>D (.tuple [],d)) (j (aq P .eql 3 X i (I J 4)) λaD=>aX (D aD) (bZ c (b5 P (c).next 50 4 [(0,k),(1,(Z [32,61,32])),(2,ae),(3,(Z [59]))]) λaE a=>aJ a (G 29 [ag,av,aE] a) λa_ d=>D (.tuple [],d)) (j (aq P .eql 3 X i (I J 5)) λaF=>aX (D aF) (bZ c (b5 P (c).next 50 3 [(0,(Z [105,102,32])),(1,k),(2,(Z [32,123]))]) λaG a=>aJ a (G 29 [ag,av,aG] a) λba d=>j (aq P .add 3 X av (I J 1)) λaI=>j (aH P 112 e 4) λaK=>j (ak P d 71 aK) λaL=>aJ d (G 31 [ag,aI,aL] d) λbb h=>j (aH P 112 e 5) λaM=>j (ak P h 71 aM) λaN=>bh P .len [71] [aN] h λaO=>j (aq P .gtr 3 X aO (I J 0)) λaP=>aX (D aP) (bZ h (D (.aB (h).next 0 1 1 (D 1),.row U 1 [[Z [125,32,101,108,115,101,32,123]]])) λaQ m=>aJ m (G 29 [ag,av,aQ] m) λbc l=>j (aq P .add 3 X av (I J 1)) λaS=>j (aH P 112 e 5) λaT=>j (ak P l 71 aT) λaU=>aJ l (G 31 [ag,aS,aU] l) λbd z=>oH G ag av z) (oH G ag av h)) (j (aq P .eql 3 X i (I J 6)) λaW=>aX (D aW) (bZ c (b5 P (c).next 50 3 [(0,(Z [119,104,105,108,101,32])),(1,k),(2,(Z [32,123]))]) λaY a=>aJ a (G 29 [ag,av,aY] a) λbe d=>j (aq P .add 3 X av (I J 1)) λaZ=>j (aH P 112 e 4) λa0=>j (ak P d 71 a0) λB=>aJ d (G 31 [ag,aZ,B] d) λa1 h=>bZ h (D (.aB (h).next 0 1 1 (D 1),.row U 1 [[Z [125]]])) λE m=>aJ m (G 29 [ag,av,E] m) λa2 l=>D (.tuple [],l)) (j (aq P .eql 3 X i (I J 7)) λF=>aX (D F) (j (aH P 112 e 3) λK=>j (ak P c 41 K) λL=>bh P .len [41] [L] c λM=>j (aq P .eql 3 X M (I J 0)) λN=>aX (D N) (bZ c (D (.aB (c).next 0 1 1 (D 1),.row U 1 [[Z [114,101,116,117,114,110,59]]])) λQ a=>aJ a (G 29 [ag,av,Q] a) λa3 d=>D (.tuple [],d)) (bZ c (b5 P (c).next 50 3 [(0,(Z [114,101,116,117,114,110,32])),(1,k),(2,(Z [59]))]) λR a=>aJ a (G 29 [ag,av,R] a) λa4 d=>D (.tuple [],d))) (j (aq P .eql 3 X i (I J 8)) λS=>aX (D S) (bZ c (b5 P (c).next 50 3 [(0,(Z [112,114,105,110,116,32])),(1,k),(2,(Z [59]))]) λT a=>aJ a (G 29 [ag,av,T] a) λa5 d=>D (.tuple [],d)) (j (aq P .eql 3 X i (I J 9)) λV=>aX (D V) (bZ c (b5 P (c).next 50 2 [(0,k),(1,(Z [59]))]) λW a=>aJ a (G 29 [ag,av,W] a) λa6 d=>D (.tuple [],d)) (D (.tuple [],c)))))))))))else C
def MB(N:Nat){ag av a:aa}{H:ad}{r:aa×ad}(h:um (aD P ay) ag av a H=D r):aD P ay 60 [ag,av,a] H=D r:=cV N (S:=λG=>um G ag av a H) Tryd.func60 (λG=>dY ((aQ ah ((aQ ah ((aQ ah ((dm ah ((aQ ah ((dB ah (aL _) ((aQ ah ((dB ah (aL _) ((aQ ah ((dB ah (aL _) ((aQ ah ((dB ah (aL _) ((aQ ah ((dB ah ((aQ ah ((aQ ah ((aQ ah (Oa G N) (aL _))) (aL _))) (aL _))) (aL _))) (aL _))))) (aL _))))) (aL _))))) (aL _))))) (aL _))))) (aL _))) (aL _))) (aL _))) (by delta um;generalize oH G=c;revert c;refine id ?_;intro c;kernel_rfl)) h
