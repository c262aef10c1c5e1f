/-
  Texts of one proof, laid together: ShA Ls Sp X1 Lx L1 L2.
-/
import Derived.Test.YtghmbpmaafnodaaDoorME
set_option linter.unusedVariables false
set_option linter.unusedSimpArgs false
set_option linter.defProp false
open Option renaming some→D,none→C
open Bool renaming true→X,false→U
open Go.bn.aa renaming int→I,str→Z,bool→Y
open Go.IntKind renaming i64→J
namespace Go.Proofs.YtghmbpmaafnodaaDoor
open Go.bn
open Nat (reduceAdd reduceLeDiff)
section
set_option maxRecDepth 100000
noncomputable section
def k4(G:aD)(N:Nat)(ag e i:aa)(H:af):O:=bg P .len [9] [ag] H λh=>j (cS P 61 [(0,(I J 0)),(3,h)]) λk=>ca H (cl P (H).next 36 1 [(0,k)]) λl a=>aO a (df P a [36,36] i l) λm c=>bm c (ba P c 29 e (.agg [I J 0,I J 0])) λd=>j (ao P d 29 e) λr=>D (.tuple [m,r],d)
def Sk(G:aD)(N:Nat):∀ad H,bC P G N (o (o (o (o (o (bI Tryd.f14)))))) (bs Tryd.f14) [] (bs Tryd.f14) ad H=k4 G N (ad 0) (ad 3) (ad 4) H:=by
 refine bZ (aL _) λad H=> ?_
 delta k4;kernel_rfl
def mD(a:aa->aa->aa->aa->af->O)(ag d:aa)(e h:aa)(c:af):O:=a ag d e h c
def nK(G:aD)(N:Nat)(n:aa->aa->aa->aa->af->O)(ag d:aa)(m e:aa)(H:af):O:=bg P .len [9] [ag] H λbR=>j (au P .lss 3 U e bR) λp=>a7 (D p) (aO H (G 39 [ag,e] H) λk o=>j (h6 k 0) λq=>j (h6 k 1) λl=>cX o [I J 0,Z [],I J 0,I J 0] λbD h=>bm h (ba P h 61 bD q) λa=>j (au P .eql 3 X l (I J 0)) λs=>a7 (D s) (j (cS P 29 [(0,(I J 1)),(1,e)]) λu=>bm a (ba P a 29 d u) λc=>j (ao P c 29 d) λr=>D (.tuple [aa.aA,r],c)) (j (ao P a 61 bD) λv=>ca a (cl P (a).next 36 1 [(0,v)]) λw c=>aO c (df P c [36,36] m w) λx i=>j (au P .add 3 U e l) λy=>aO i (G 38 [ag,y] i) (mD n ag d x))) (k4 G N ag d m H)
def pc(G:aD)(N:Nat):Nat->aa->aa->aa->aa->af->O
 |0,_,_,_,_,_=>C
 |n+1,ag,a,c,d,H=>nK G N (pc G N n) ag a c d H
def Sj(G:aD)(N:Nat)(c:aa->aa->aa->aa->af->O):∀ad H,bC P G N (bd (bd (bd (o (o (o (o (bI Tryd.f14)))))))) (λad H=>c (ad 0) (ad 3) (ad 4) (ad 5) H) [(0,(λad H=>k4 G N (ad 0) (ad 3) (ad 4) H))] (bs Tryd.f14) ad H=nK G N c (ad 0) (ad 3) (ad 4) (ad 5) H:=by
 refine bZ (aL _) λad H=> ?_
 delta nK mD;generalize k4 G N=a;revert a;refine id ?_;intro a;kernel_rfl
def mE(G:aD)(N:Nat)(ag d c:aa)(a:af):O:=pc G N N ag d aa.aA c a
def mC(G:aD)(N:Nat)(ag:aa)(H:af):O:=cX H [I J 0,I J 0] λc a=>bg P .len [9] [ag] a λh=>j (au P .gtr 3 X h (I J 6000)) λe=>a7 (D e) (bm a (ba P a 29 c (.agg [I J 4,I J 0])) λd=>j (ao P d 29 c) λr=>D (.tuple [aa.aA,r],d)) (aO a (G 38 [ag,I J 0] a) (mE G N ag c))
def Q7(N:Nat){ag:aa}{H:af}{r:aa×af}(h:mC (aI P aB) N ag H=D r):aI P aB 14 [ag] H=D r:=cZ N (S:=λG=>mC G N ag H) Tryd.func14 (λG=>eo ((aX ah ((aX ah ((aX ah ((aX ah ((aX ah (Sk G N) ((dx ah ((eP (k:=λm ad H=>pc G N m (ad 0) (ad 3) (ad 4) (ad 5) H) ah (λad H=>ah) (λm=>Sj G N (pc G N m)))))))) (aL _))) (aL _))) (aL _))) (aL _))) (by delta mC mE;generalize pc G N N=a;revert a;refine id ?_;intro a;kernel_rfl)) h
def iZ(G:aD)(N:Nat)(av:aa)(H:af):O:=some (av,H)
def SM(G:aD)(N:Nat):∀ad H,bC P G N (o (o (bI Tryd.f38))) (bs Tryd.f38) [] (bs Tryd.f38) ad H=iZ G N (ad 1) H:=by
 refine bZ (aL _) λad H=> ?_
 delta iZ;kernel_rfl
def sD(G:aD)(N:Nat)(d:aa->aa->af->O)(e:aa->aa->af->O)(ag av:aa)(H:af):O:=bg P .len [9] [ag] H λl=>j (au P .lss 3 U av l) λa=>aM a X H (cJ ag) λm h=>aM a X h (cJ av) λn i=>aM a X i (br (fC P 9 m n)) λo k=>aM a X k (br (au P .neq 5 X o (I .u8 10))) λp c=>j (cE a (D p) (D (Y U))) λq=>a7 (D q) (j (au P .add 3 X av (I J 1)) λs=>e ag s c) (d ag av c)
def nS(G:aD)(N:Nat)(a:aa->aa->af->O):Nat->aa->aa->af->O
 |0,_,_,_=>C
 |n+1,ag,av,H=>sD G N a (nS G N a n) ag av H
def SL(G:aD)(N:Nat)(a:aa->aa->af->O)(d:aa->aa->af->O):∀ad H,bC P G N (bd (bd (bd (o (o (o (bd (bd (o (bd (bd (bd (o (bI Tryd.f38)))))))))))))) (λad H=>d (ad 0) (ad 1) H) [(3,(λad H=>a (ad 0) (ad 1) H)),(2,(λad H=>a (ad 0) (ad 1) H)),(1,(λad H=>a (ad 0) (ad 1) H)),(0,(λad H=>iZ G N (ad 1) H))] (bs Tryd.f38) ad H=sD G N a d (ad 0) (ad 1) H:=by
 refine bZ (aL _) λad H=> ?_
 delta sD;generalize a=c;revert c;refine id ?_;intro c;kernel_rfl
def lO(G:aD)(N:Nat)(i:aa->aa->af->O)(ag av:aa)(H:af):O:=bg P .len [9] [ag] H λar=>j (au P .lss 3 U av ar) λaw=>a7 (D aw) (j (fC P 9 ag av) λF=>j (au P .eql 5 X F (I .u8 32)) λc=>aM c U H (cJ ag) λbR l=>aM c U l (cJ av) λK v=>aM c U v (br (fC P 9 bR K)) λL w=>aM c U w (br (au P .eql 5 X L (I .u8 9))) λM x=>j (cE c (D (Y X)) (D M)) λd=>aM d U x (cJ ag) λQ y=>aM d U y (cJ av) λR z=>aM d U z (br (fC P 9 Q R)) λS A=>aM d U A (br (au P .eql 5 X S (I .u8 10))) λT B=>j (cE d (D (Y X)) (D T)) λe=>aM e U B (cJ ag) λV E=>aM e U E (cJ av) λW m=>aM e U m (br (fC P 9 V W)) λab n=>aM e U n (br (au P .eql 5 X ab (I .u8 13))) λad h=>j (cE e (D (Y X)) (D ad)) λae=>a7 (D ae) (j (au P .add 3 X av (I J 1)) λah=>i ag ah h) (bg P .len [9] [ag] h λai=>j (au P .sub 3 U ai av) λaj=>j (au P .geq 3 X aj (I J 2)) λa=>aM a X h (cJ ag) λak o=>aM a X o (cJ av) λal p=>aM a X p (cJ av) λam q=>aM a X q (br (au P .add 3 X am (I J 2))) λan s=>aM a X s (br (lp P 9 ak (D al) (D an) C)) λao u=>aM a X u (br (au P .eql 9 X ao (Z [47,47]))) λap k=>j (cE a (D ap) (D (Y U))) λaq=>a7 (D aq) (nS G N i N ag av k) (D (av,k)))) (iZ G N av H)
def ju(G:aD)(N:Nat):Nat->aa->aa->af->O
 |0,_,_,_=>C
 |n+1,ag,av,H=>lO G N (ju G N n) ag av H
def SK(G:aD)(N:Nat)(a:aa->aa->af->O):∀ad H,bC P G N (bd (bd (bd (o (bI Tryd.f38))))) (λad H=>a (ad 0) (ad 1) H) [(0,(λad H=>iZ G N (ad 1) H))] (bs Tryd.f38) ad H=lO G N a (ad 0) (ad 1) H:=by
 refine bZ ((aX ah ((dx ah ((dx ah ((aX ah ((d_ ah (aL _) ((aX ah ((d_ ah ((dx ah ((eP (k:=λm ad H=>nS G N a m (ad 0) (ad 1) H) ah (λad H=>ah) (λm=>SL G N a (nS G N a m)))))) (aL _))) (aL _))))) (aL _))))))) (aL _))) λad H=> ?_
 delta lO;generalize iZ G N=c;generalize nS G N a N=d;revert c d;refine id ?_;intro c d;kernel_rfl
def jJ(G:aD)(N:Nat)(ag av:aa)(H:af):O:=ju G N N ag av H
def Ro(N:Nat){ag av:aa}{H:af}{r:aa×af}(h:jJ (aI P aB) N ag av H=D r):aI P aB 38 [ag,av] H=D r:=cZ N (S:=λG=>jJ G N ag av H) Tryd.func38 (λG=>eo ((aX ah ((aX ah (SM G N) ((dx ah ((eP (k:=λm ad H=>ju G N m (ad 0) (ad 1) H) ah (λad H=>ah) (λm=>SK G N (ju G N m)))))))) (aL _))) (by delta jJ;generalize ju G N N=a;revert a;refine id ?_;intro a;kernel_rfl)) h
def fT(G:aD)(ag av:aa)(H:af):O:=cX H [I J 0,Z [],I J 0,I J 0] λc y=>j (fC P 9 ag av) λal=>aO y (G 62 [al] y) λbR p=>a7 (D bR) (aO p (G 63 [ag,av,Y U] p) λw h=>j (au P .add 3 U av w) λam=>j (lp P 9 ag (D av) (D am) C) λu=>aO h (G 64 [u] h) λan d=>a7 (D an) (j (cS P 61 [(0,(I J 3)),(1,u),(3,av)]) λap=>bm d (ba P d 61 c ap) λa=>j (ao P a 61 c) λr=>D (.tuple [r,w],a)) (aO d (G 65 [u] d) λaq a=>a7 (D aq) (j (cS P 61 [(0,(I J 1)),(1,u),(3,av)]) λar=>bm a (ba P a 61 c ar) λi=>j (ao P i 61 c) λr=>D (.tuple [r,w],i)) (bm a (ba P a 61 c (.agg [I J 0,Z [],I J 0,I J 0])) λi=>j (ao P i 61 c) λr=>D (.tuple [r,I J 0],i)))) (j (fC P 9 ag av) λaw=>aO p (G 66 [aw] p) λax h=>a7 (D ax) (aO h (G 63 [ag,av,Y X] h) λm d=>j (au P .add 3 U av m) λay=>j (lp P 9 ag (D av) (D ay) C) λaz=>aO d (G 67 [az] d) λA a=>j (h6 A 0) λaB=>j (h6 A 1) λaC=>j (fD .not aC) λn=>aM n U a (cJ m) λaE i=>aM n U i (br (au P .gtr 3 X aE (I J 1))) λaF ah=>aM n U ah (cJ aF) λo ai=>aM o X ai (cJ ag) λaH aj=>aM o X aj (cJ av) λaI E=>aM o X E (br (fC P 9 aH aI)) λaJ F=>aM o X F (br (au P .eql 5 X aJ (I .u8 48))) λaK K=>aM n U K (br (cE o (D aK) (D (Y U)))) λaL L=>j (cE n (D (Y X)) (D aL)) λe=>aM e U L (cJ av) λaN M=>aM e U M (cJ m) λaP N=>aM e U N (br (au P .add 3 U aN aP)) λaQ Q=>aM e U Q (cJ ag) λB z=>aM e U z (λq=>iM (cx P .empty .len [9] [B]) (cx P z .len [9] [B]) q) λaR R=>aM e U R (br (au P .lss 3 U aQ aR)) λaS S=>aM e U S (cJ aS) λk T=>aM k X T (cJ ag) λaT V=>aM k X V (cJ av) λaU W=>aM k X W (cJ m) λaV ab=>aM k X ab (br (au P .add 3 U aU aV)) λaW ad=>aM k X ad (br (fC P 9 aT aW)) λaX v=>aM k X v (λq=>eQ v (G 62 [aX] v) q) λaY ae=>aM e U ae (br (cE k (D aY) (D (Y U)))) λaZ s=>j (cE e (D (Y X)) (D aZ)) λa0=>a7 (D a0) (bm s (ba P s 61 c (.agg [I J 0,Z [],I J 0,I J 0])) λl=>j (ao P l 61 c) λr=>D (.tuple [r,I J 0],l)) (j (cS P 61 [(0,(I J 2)),(2,aB),(3,av)]) λa1=>bm s (ba P s 61 c a1) λl=>j (ao P l 61 c) λr=>D (.tuple [r,m],l))) (aO h (G 68 [ag,av] h) λx d=>j (au P .eql 9 X x (Z [])) λa2=>a7 (D a2) (bm d (ba P d 61 c (.agg [I J 0,Z [],I J 0,I J 0])) λa=>j (ao P a 61 c) λr=>D (.tuple [r,I J 0],a)) (j (cS P 61 [(0,(I J 4)),(1,x),(3,av)]) λa3=>bg P .len [9] [x] d λak=>bm d (ba P d 61 c a3) λa=>j (ao P a 61 c) λr=>D (.tuple [r,ak],a))))
def Rp(N:Nat){ag av:aa}{H:af}{r:aa×af}(h:fT (aI P aB) ag av H=D r):aI P aB 39 [ag,av] H=D r:=cZ N (S:=λG=>fT G ag av H) Tryd.func39 (λ_=>by delta fT;kernel_rfl) h
def xd(G:aD)(ag:aa)(H:af):O:=j (au P .geq 5 X ag (I .u8 97)) λd=>aM d X H (cJ ag) λbD e=>aM d X e (br (au P .leq 5 X bD (I .u8 122))) λw h=>j (cE d (D w) (D (Y U))) λa=>aM a U h (cJ ag) λp i=>aM a U i (br (au P .geq 5 X p (I .u8 65))) λq k=>aM a U k (cJ q) λc l=>aM c X l (cJ ag) λs m=>aM c X m (br (au P .leq 5 X s (I .u8 90))) λu n=>aM a U n (br (cE c (D u) (D (Y U)))) λv o=>j (cE a (D (Y X)) (D v)) λbR=>D (bR,o)
def RG(N:Nat){ag:aa}{H:af}{r:aa×af}(h:xd (aI P aB) ag H=D r):aI P aB 62 [ag] H=D r:=cZ N (S:=λG=>xd G ag H) Tryd.func62 (λ_=>by delta xd;kernel_rfl) h
def k7(G:aD)(N:Nat)(a:aa)(H:af):O:=some (a,H)
def Tk(G:aD)(N:Nat):∀ad H,bC P G N (o (o (o (bI Tryd.f63)))) (bs Tryd.f63) [] (bs Tryd.f63) ad H=k7 G N (ad 7) H:=by
 refine bZ (aL _) λad H=> ?_
 delta k7;kernel_rfl
def mM(G:aD)(N:Nat)(m:aa->aa->aa->aa->af->O)(ag av:aa)(l e:aa)(H:af):O:=j (au P .add 3 U av e) λL=>bg P .len [9] [ag] H λM=>j (au P .lss 3 U L M) λa=>aM a X H (cJ ag) λQ n=>aM a X n (cJ av) λbR y=>aM a X y (cJ e) λR z=>aM a X z (br (au P .add 3 U bR R)) λS A=>aM a X A (br (fC P 9 Q S)) λT i=>aM a X i (λq=>eQ i (G 66 [T] i) q) λV B=>aM a X B (cJ V) λd E=>aM d U E (cJ l) λW F=>aM d U F (br (fD .not W)) λab K=>aM d U K (cJ ab) λc o=>aM c X o (cJ ag) λad p=>aM c X p (cJ av) λae s=>aM c X s (cJ e) λah u=>aM c X u (br (au P .add 3 U ae ah)) λai v=>aM c X v (br (fC P 9 ad ai)) λaj h=>aM c X h (λq=>eQ h (G 62 [aj] h) q) λak w=>aM d U w (br (cE c (D ak) (D (Y U)))) λal x=>aM a X x (br (cE d (D (Y X)) (D al))) λam k=>j (cE a (D am) (D (Y U))) λan=>a7 (D an) (j (au P .add 3 X e (I J 1)) λao=>m ag av l ao k) (k7 G N e k)
def nX(G:aD)(N:Nat):Nat->aa->aa->aa->aa->af->O
 |0,_,_,_,_,_=>C
 |n+1,ag,av,a,c,H=>mM G N (nX G N n) ag av a c H
def Tj(G:aD)(N:Nat)(c:aa->aa->aa->aa->af->O):∀ad H,bC P G N (bd (bd (bd (o (o (bI Tryd.f63)))))) (λad H=>c (ad 0) (ad 1) (ad 2) (ad 7) H) [(0,(λad H=>k7 G N (ad 7) H))] (bs Tryd.f63) ad H=mM G N c (ad 0) (ad 1) (ad 2) (ad 7) H:=by
 refine bZ (aL _) λad H=> ?_
 delta mM;generalize k7 G N=a;revert a;refine id ?_;intro a;kernel_rfl
def lP(G:aD)(N:Nat)(ag av a:aa)(H:af):O:=nX G N N ag av a (I J 0) H
def RH(N:Nat){ag av a:aa}{H:af}{r:aa×af}(h:lP (aI P aB) N ag av a H=D r):aI P aB 63 [ag,av,a] H=D r:=cZ N (S:=λG=>lP G N ag av a H) Tryd.func63 (λG=>eo ((aX ah ((aX ah ((aX ah (Tk G N) ((dx ah ((eP (k:=λm ad H=>nX G N m (ad 0) (ad 1) (ad 2) (ad 7) H) ah (λad H=>ah) (λm=>Tj G N (nX G N m)))))))) (aL _))) (aL _))) (by delta lP;generalize nX G N N=c;revert c;refine id ?_;intro c;kernel_rfl)) h
def nY(G:aD)(N:Nat)(H:af):O:=some ((Y U),H)
def Tm(G:aD)(N:Nat):∀ad H,bC P G N (o (o (o (bI Tryd.f64)))) (bs Tryd.f64) [] (bs Tryd.f64) ad H=nY G N H:=by
 refine bZ (aL _) λad H=> ?_
 delta nY;kernel_rfl
def qX(G:aD)(N:Nat)(d:aa->aa->aa->af->O)(ag a c:aa)(H:af):O:=bg P .len [50] [a] H λl=>j (au P .lss 3 U c l) λm=>a7 (D m) (j (cF P 50 a c) λh=>j (ao P H 9 h) λi=>j (au P .eql 9 U i ag) λk=>a7 (D k) (D ((Y X),H)) (j (au P .add 3 X c (I J 1)) λe=>d ag a e H)) (nY G N H)
def px(G:aD)(N:Nat):Nat->aa->aa->aa->af->O
 |0,_,_,_,_=>C
 |n+1,ag,a,c,H=>qX G N (px G N n) ag a c H
def Tl(G:aD)(N:Nat)(c:aa->aa->aa->af->O):∀ad H,bC P G N (bd (bd (o (bd (o (o (bI Tryd.f64))))))) (λad H=>c (ad 0) (ad 3) (ad 4) H) [(0,(λad H=>nY G N H))] (bs Tryd.f64) ad H=qX G N c (ad 0) (ad 3) (ad 4) H:=by
 refine bZ (aL _) λad H=> ?_
 delta qX;generalize nY G N=a;revert a;refine id ?_;intro a;kernel_rfl
def qW(G:aD)(N:Nat)(ag c:aa)(a:af):O:=px G N N ag c (I J 0) a
def pw(G:aD)(N:Nat)(ag:aa)(H:af):O:=aO H (G 81 [] H) (qW G N ag)
def RI(N:Nat){ag:aa}{H:af}{r:aa×af}(h:pw (aI P aB) N ag H=D r):aI P aB 64 [ag] H=D r:=cZ N (S:=λG=>pw G N ag H) Tryd.func64 (λG=>eo ((aX ah ((aX ah ((aX ah (Tm G N) ((aX ah ((dx ah ((eP (k:=λm ad H=>px G N m (ad 0) (ad 3) (ad 4) H) ah (λad H=>ah) (λm=>Tl G N (px G N m)))))) (aL _))))) (aL _))) (aL _))) (by delta pw qW;generalize px G N N=a;revert a;refine id ?_;intro a;kernel_rfl)) h
def iI(G:aD)(N:Nat)(H:af):O:=some ((Y X),H)
def To(G:aD)(N:Nat):∀ad H,bC P G N (o (o (o (bI Tryd.f65)))) (bs Tryd.f65) [] (bs Tryd.f65) ad H=iI G N H:=by
 refine bZ (aL _) λad H=> ?_
 delta iI;kernel_rfl
def jO(G:aD)(N:Nat)(h:aa->aa->af->O)(ag c:aa)(H:af):O:=bg P .len [9] [ag] H λn=>j (au P .lss 3 U c n) λo=>a7 (D o) (j (fC P 9 ag c) λs=>aO H (G 62 [s] H) λu i=>j (fD .not u) λa=>aM a X i (cJ ag) λv k=>aM a X k (cJ c) λw l=>aM a X l (br (fC P 9 v w)) λx d=>aM a X d (λq=>eQ d (G 66 [x] d) q) λy m=>aM a X m (br (fD .not y)) λz e=>j (cE a (D z) (D (Y U))) λA=>a7 (D A) (D ((Y U),e)) (j (au P .add 3 X c (I J 1)) λp=>h ag p e)) (iI G N H)
def py(G:aD)(N:Nat):Nat->aa->aa->af->O
 |0,_,_,_=>C
 |n+1,ag,a,H=>jO G N (py G N n) ag a H
def Tn(G:aD)(N:Nat)(c:aa->aa->af->O):∀ad H,bC P G N (bd (bd (o (bd (o (o (bI Tryd.f65))))))) (λad H=>c (ad 0) (ad 3) H) [(0,(λad H=>iI G N H))] (bs Tryd.f65) ad H=jO G N c (ad 0) (ad 3) H:=by
 refine bZ (aL _) λad H=> ?_
 delta jO;generalize iI G N=a;revert a;refine id ?_;intro a;kernel_rfl
def jv(G:aD)(N:Nat)(ag:aa)(H:af):O:=bg P .len [9] [ag] H λA=>j (au P .lss 3 X A (I J 1)) λbD=>aM bD U H (cJ ag) λk h=>aM bD U h (λq=>iM (cx P .empty .len [9] [k]) (cx P h .len [9] [k]) q) λB l=>aM bD U l (br (au P .gtr 3 X B (I J 8))) λs m=>j (cE bD (D (Y X)) (D s)) λa=>aM a U m (cJ ag) λu n=>aM a U n (br (fC P 9 u (I J 0))) λv c=>aM a U c (λq=>eQ c (G 62 [v] c) q) λw o=>aM a U o (br (fD .not w)) λbR p=>j (cE a (D (Y X)) (D bR)) λe=>aM e U p (cJ ag) λx d=>aM e U d (λq=>eQ d (G 64 [x] d) q) λy i=>j (cE e (D (Y X)) (D y)) λz=>a7 (D z) (D ((Y U),i)) (py G N N ag (I J 0) i)
def RJ(N:Nat){ag:aa}{H:af}{r:aa×af}(h:jv (aI P aB) N ag H=D r):aI P aB 65 [ag] H=D r:=cZ N (S:=λG=>jv G N ag H) Tryd.func65 (λG=>eo ((aX ah ((aX ah ((aX ah (To G N) ((aX ah ((dx ah ((eP (k:=λm ad H=>py G N m (ad 0) (ad 3) H) ah (λad H=>ah) (λm=>Tn G N (py G N m)))))) (aL _))))) (aL _))) (aL _))) (by delta jv;generalize py G N N=a;revert a;refine id ?_;intro a;kernel_rfl)) h
def xe(G:aD)(ag:aa)(H:af):O:=j (au P .geq 5 X ag (I .u8 48)) λa=>aM a X H (cJ ag) λbD c=>aM a X c (br (au P .leq 5 X bD (I .u8 57))) λe d=>j (cE a (D e) (D (Y U))) λh=>D (h,d)
def RK(N:Nat){ag:aa}{H:af}{r:aa×af}(h:xe (aI P aB) ag H=D r):aI P aB 66 [ag] H=D r:=cZ N (S:=λG=>xe G ag H) Tryd.func66 (λ_=>by delta xe;kernel_rfl) h
def pz(G:aD)(N:Nat)(a:aa)(H:af):O:=some (.tuple [a,Y X],H)
def Tq(G:aD)(N:Nat):∀ad H,bC P G N (o (o (o (bI Tryd.f67)))) (bs Tryd.f67) [] (bs Tryd.f67) ad H=pz G N (ad 4) H:=by
 refine bZ (aL _) λad H=> ?_
 delta pz;kernel_rfl
def sN(G:aD)(N:Nat)(e:aa->aa->aa->af->O)(ag a c:aa)(H:af):O:=bg P .len [9] [ag] H λq=>j (au P .lss 3 U c q) λh=>a7 (D h) (j (fC P 9 ag c) λk=>j (au P .sub 5 X k (I .u8 48)) λbR=>s7 P 5 3 bR H λd=>j (au P .sub 3 X (I J 9223372036854775807) d) λl=>j (au P .quo 3 X l (I J 10)) λm=>j (au P .gtr 3 U a m) λn=>a7 (D n) (D (.tuple [I J 0,Y U],H)) (j (au P .mul 3 X (I J 10) a) λo=>j (au P .add 3 U o d) λp=>j (au P .add 3 X c (I J 1)) λi=>e ag p i H)) (pz G N a H)
def nZ(G:aD)(N:Nat):Nat->aa->aa->aa->af->O
 |0,_,_,_,_=>C
 |n+1,ag,a,c,H=>sN G N (nZ G N n) ag a c H
def Tp(G:aD)(N:Nat)(c:aa->aa->aa->af->O):∀ad H,bC P G N (bd (bd (o (bd (o (o (bI Tryd.f67))))))) (λad H=>c (ad 0) (ad 4) (ad 5) H) [(0,(λad H=>pz G N (ad 4) H))] (bs Tryd.f67) ad H=sN G N c (ad 0) (ad 4) (ad 5) H:=by
 refine bZ (aL _) λad H=> ?_
 delta sN;generalize pz G N=a;revert a;refine id ?_;intro a;kernel_rfl
def qY(G:aD)(N:Nat)(ag:aa)(H:af):O:=nZ G N N ag (I J 0) (I J 0) H
def RL(N:Nat){ag:aa}{H:af}{r:aa×af}(h:qY (aI P aB) N ag H=D r):aI P aB 67 [ag] H=D r:=cZ N (S:=λG=>qY G N ag H) Tryd.func67 (λG=>eo ((aX ah ((aX ah ((aX ah (Tq G N) ((aX ah ((dx ah ((eP (k:=λm ad H=>nZ G N m (ad 0) (ad 4) (ad 5) H) ah (λad H=>ah) (λm=>Tp G N (nZ G N m)))))) (aL _))))) (aL _))) (aL _))) (by delta qY;generalize nZ G N N=a;revert a;refine id ?_;intro a;kernel_rfl)) h
def k8(G:aD)(N:Nat)(H:af):O:=some ((Z []),H)
def Tu(G:aD)(N:Nat):∀ad H,bC P G N (o (o (o (o (o (bI Tryd.f68)))))) (bs Tryd.f68) [] (bs Tryd.f68) ad H=k8 G N H:=by
 refine bZ (aL _) λad H=> ?_
 delta k8;kernel_rfl
def sO(G:aD)(N:Nat)(d:aa->aa->aa->aa->af->O)(ag av:aa)(c a:aa)(H:af):O:=bg P .len [9] [c] H λe=>j (au P .lss 3 U a e) λh=>a7 (D h) (j (fC P 9 ag av) λk=>j (fC P 9 c a) λl=>j (au P .eql 5 U k l) λm=>a7 (D m) (j (au P .add 3 X a (I J 1)) λn=>j (lp P 9 c (D a) (D n) C) λo=>D (o,H)) (j (au P .add 3 X a (I J 1)) λi=>d ag av c i H)) (k8 G N H)
def n1(G:aD)(N:Nat):Nat->aa->aa->aa->aa->af->O
 |0,_,_,_,_,_=>C
 |n+1,ag,av,a,c,H=>sO G N (n1 G N n) ag av a c H
def Tr(G:aD)(N:Nat)(c:aa->aa->aa->aa->af->O):∀ad H,bC P G N (bd (bd (o (bd (o (o (o (o (bI Tryd.f68))))))))) (λad H=>c (ad 0) (ad 1) (ad 7) (ad 8) H) [(2,(λad H=>k8 G N H))] (bs Tryd.f68) ad H=sO G N c (ad 0) (ad 1) (ad 7) (ad 8) H:=by
 refine bZ (aL _) λad H=> ?_
 delta sO;generalize k8 G N=a;revert a;refine id ?_;intro a;kernel_rfl
def mP(G:aD)(N:Nat)(ag av:aa)(H:af):O:=n1 G N N ag av (Z [123,125,40,41,91,93,59,58,44,46,61,43,45,42,47,37,60,33]) (I J 0) H
def Tt(G:aD)(N:Nat):∀ad H,bC P G N (o (o (o (bI Tryd.f68)))) (bs Tryd.f68) [] (bs Tryd.f68) ad H=mP G N (ad 0) (ad 1) H:=by
 refine bZ ((aX ah ((aX ah (Tu G N) ((aX ah ((dx ah ((eP (k:=λm ad H=>n1 G N m (ad 0) (ad 1) (ad 7) (ad 8) H) ah (λad H=>ah) (λm=>Tr G N (n1 G N m)))))) (aL _))))) (aL _))) λad H=> ?_
 delta mP;generalize n1 G N N=a;revert a;refine id ?_;intro a;kernel_rfl
def mO(G:aD)(N:Nat)(h:aa->aa->aa->aa->af->O)(ag av:aa)(c bD:aa)(H:af):O:=bg P .len [50] [c] H λs=>j (au P .lss 3 U bD s) λu=>a7 (D u) (bg P .len [9] [ag] H λw=>j (au P .sub 3 U w av) λx=>j (au P .geq 3 X x (I J 2)) λa=>aM a X H (cJ ag) λy i=>aM a X i (cJ av) λz k=>aM a X k (cJ av) λA l=>aM a X l (br (au P .add 3 X A (I J 2))) λB m=>aM a X m (br (lp P 9 y (D z) (D B) C)) λE n=>aM a X n (cJ c) λF o=>aM a X o (cJ bD) λK p=>aM a X p (br (cF P 50 F K)) λL e=>aM a X e (qr (ao P e 9 L)) λM q=>aM a X q (br (au P .eql 9 U E M)) λQ d=>j (cE a (D Q) (D (Y U))) λR=>a7 (D R) (j (cF P 50 c bD) λS=>j (ao P d 9 S) λT=>D (T,d)) (j (au P .add 3 X bD (I J 1)) λv=>h ag av c v d)) (mP G N ag av H)
def mQ(G:aD)(N:Nat):Nat->aa->aa->aa->aa->af->O
 |0,_,_,_,_,_=>C
 |n+1,ag,av,a,bD,H=>mO G N (mQ G N n) ag av a bD H
def Ts(G:aD)(N:Nat)(c:aa->aa->aa->aa->af->O):∀ad H,bC P G N (bd (bd (o (bd (o (o (bI Tryd.f68))))))) (λad H=>c (ad 0) (ad 1) (ad 5) (ad 6) H) [(0,(λad H=>mP G N (ad 0) (ad 1) H))] (bs Tryd.f68) ad H=mO G N c (ad 0) (ad 1) (ad 5) (ad 6) H:=by
 refine bZ (aL _) λad H=> ?_
 delta mO;generalize mP G N=a;revert a;refine id ?_;intro a;kernel_rfl
def mN(G:aD)(N:Nat)(ag av c:aa)(a:af):O:=mQ G N N ag av c (I J 0) a
def lQ(G:aD)(N:Nat)(ag av:aa)(H:af):O:=ca H (D (.aG (H).next 0 5 1 (D 5),.row U 1 [[Z [60,61]],[Z [61,61]],[Z [33,61]],[Z [38,38]],[Z [124,124]]])) (mN G N ag av)
def RM(N:Nat){ag av:aa}{H:af}{r:aa×af}(h:lQ (aI P aB) N ag av H=D r):aI P aB 68 [ag,av] H=D r:=cZ N (S:=λG=>lQ G N ag av H) Tryd.func68 (λG=>eo ((aX ah ((aX ah ((aX ah (Tt G N) ((aX ah ((dx ah ((eP (k:=λm ad H=>mQ G N m (ad 0) (ad 1) (ad 5) (ad 6) H) ah (λad H=>ah) (λm=>Ts G N (mQ G N m)))))) (aL _))))) (aL _))) (aL _))) (by delta lQ mN;generalize mQ G N N=a;revert a;refine id ?_;intro a;kernel_rfl)) h
def Au(av:aa)(a:af):O:=some (av,a)
def xg(G:aD)(H:af):O:=ca H (D (.aG (H).next 0 18 1 (D 18),.row U 1 [[Z [114,101,99,111,114,100]],[Z [103,108,111,98,97,108]],[Z [102,117,110,99]],[Z [118,97,114]],[Z [108,101,116]],[Z [105,102]],[Z [101,108,115,101]],[Z [119,104,105,108,101]],[Z [114,101,116,117,114,110]],[Z [112,114,105,110,116]],[Z [110,117,108,108]],[Z [110,101,119]],[Z [108,101,110]],[Z [114,101,97,100]],[Z [116,114,117,101]],[Z [102,97,108,115,101]],[Z [105,110,116]],[Z [98,111,111,108]]])) (Au)
def RT(N:Nat){H:af}{r:aa×af}(h:xg (aI P aB) H=D r):aI P aB 81 [] H=D r:=cZ N (S:=λG=>xg G H) Tryd.func81 (λ_=>by delta xg Au;kernel_rfl) h
end
end
section
set_option linter.defProp false
def G8:=ai @af.ch @af.dK
def LP:=ai (ai (ai (ai (ai (ai (ai (ai @K6 @K2) (ai @H4 @H5)) (ai (ai @H9 @KV) (ai @xI (ai @eC @BW)))) (ai (ai (ai @fl @xG) (ai @K1 (ai @KX @K0))) (ai (ai @KY @KZ) (ai @KW (ai @HM @HL))))) (ai (ai (ai (ai @B9 @Bu) (ai @Bv (ai @Bw @Bp))) (ai (ai @Bq @Br) (ai @Bs (ai @Bn @Bt)))) (ai (ai (ai @Bo @Option.bind_some.{0,0}) (ai @aS (ai @aN @BO))) (ai (ai @Ie @Ih) (ai @Ic (ai @nC @Ac)))))) (ai (ai (ai (ai (ai @Ig @List.getElem?_cons_zero.{0}) (ai @List.getElem?_cons_succ.{0} @List.drop_zero.{0})) (ai (ai @List.drop_succ_cons.{0} @List.take_succ_cons.{0}) (ai @List.take_zero.{0} (ai @List.set_cons_zero.{0} @List.set_cons_succ.{0})))) (ai (ai (ai @List.cons_append.{0} @List.nil_append.{0}) (ai @List.length_cons.{0} (ai @List.length_nil.{0} @List.all_cons.{0}))) (ai (ai @List.all_nil.{0} @Bool.and_true) (ai @Bool.and_self (ai @Nat.zero_add @Nat.add_zero))))) (ai (ai (ai (ai @bo @and_self) (ai @and_true (ai @true_and @if_true.{1}))) (ai (ai @aZ @hs) (ai @hS (ai @ue @zN)))) (ai (ai (ai @wi @zM) (ai @zL (ai @JG @JI))) (ai (ai @JO @JY) (ai @JH (ai @JE @JF))))))) (ai (ai (ai (ai (ai (ai @JJ @JL) (ai @JM @JN)) (ai (ai @uW @uX) (ai @AQ (ai @AP @JP)))) (ai (ai (ai @Jy @Jz) (ai @JA (ai @JB @JC))) (ai (ai @JD @JQ) (ai @JS (ai @JR @JT))))) (ai (ai (ai (ai @JU @JV) (ai @JW (ai @JX @Kj))) (ai (ai @Kn @Kp) (ai @xr (ai @sY @xt)))) (ai (ai (ai @Kh @A3) (ai @A5 (ai @A4 @Ks))) (ai (ai @Kt @Ku) (ai @Kv (ai @Kw @Kk)))))) (ai (ai (ai (ai (ai @Km @ra) (ai @A6 @Kl)) (ai (ai @Ki @Ko) (ai @Kq (ai @Kr @u0)))) (ai (ai (ai @Kc @Kd) (ai @Ke (ai @Kf @Kg))) (ai (ai @D9 @Eh) (ai @D_ (ai @Ee @Ed))))) (ai (ai (ai (ai @Ec @Eb) (ai @Ea (ai @Ef @Eg))) (ai (ai @C6 @G3) (ai @af.vA (ai @af.dS @af.get_set_same)))) (ai (ai (ai @af.get_set_other @af.ch) (ai @af.dK (ai @af.HY @af.set_set))) (ai (ai @Cw @Cx) (ai @Cg (ai @Cd @Ce)))))))) (ai (ai (ai (ai (ai (ai (ai @CB @Cs) (ai @Ct @Cu)) (ai (ai @Cv @Cy) (ai @CC (ai @CE @CF)))) (ai (ai (ai @Cz @CA) (ai @Cp (ai @Cq @Ch))) (ai (ai @Cc @Cj) (ai @Ck (ai @Ci @Co))))) (ai (ai (ai (ai @Cr @Cl) (ai @Cf (ai @Cm @Cn))) (ai (ai @Dt @Du) (ai @Dv (ai @Dw @Dx)))) (ai (ai (ai @Dy @Dz) (ai @DA (ai @DB @DC))) (ai (ai @DD @DF) (ai @DG (ai @DH @DI)))))) (ai (ai (ai (ai (ai @DJ @DK) (ai @DL @rM)) (ai (ai @rN @DM) (ai @DN (ai @DO @DP)))) (ai (ai (ai @DQ @DR) (ai @DS (ai @DT @DU))) (ai (ai @DV @DW) (ai @DX (ai @DY @DZ))))) (ai (ai (ai (ai @D0 @D1) (ai @D2 (ai @D3 @D4))) (ai (ai @D5 @D6) (ai @Dk (ai @Dl @Dm)))) (ai (ai (ai @Dn @Dp) (ai @Dq (ai @Dr @Ds))) (ai (ai @EB @EC) (ai @ED (ai @EE @EG))))))) (ai (ai (ai (ai (ai (ai @EH @EI) (ai @EJ @EK)) (ai (ai @EL @EM) (ai @EN (ai @EO @EP)))) (ai (ai (ai @ER @ES) (ai @ET (ai @EU @EV))) (ai (ai @EW @EX) (ai @EY (ai @EZ @E0))))) (ai (ai (ai (ai @E1 @E2) (ai @E3 (ai @E4 @E5))) (ai (ai @E6 @E7) (ai @E8 (ai @E9 @E_)))) (ai (ai (ai @Fa @Fb) (ai @Fc (ai @Fe @Ff))) (ai (ai @Fg @Fh) (ai @Et (ai @Eu @Ev)))))) (ai (ai (ai (ai (ai @Ew @Ex) (ai @Ey @Ez)) (ai (ai @EA @Gs) (ai @tS (ai @vR @tT)))) (ai (ai (ai @vS @tU) (ai @vT (ai @vU @zq))) (ai (ai @oO @tV) (ai @Gl (ai @Gm @Gn))))) (ai (ai (ai (ai @Gp @vV) (ai @zr (ai @Gq @Gr))) (ai (ai @Gh @Gi) (ai @Gj (ai @Gk @Ft)))) (ai (ai (ai @Fu @Fv) (ai @y0 (ai @Fw @y1))) (ai (ai @y2 @Fx) (ai @Fy (ai @yY @yZ))))))))
def bG:=ai (ai (ai (ai (ai @K6 @K2) (ai @H4 (ai @H5 @H9))) (ai (ai @KV @xI) (ai @eC (ai @BW @fl)))) (ai (ai (ai @xG @K1) (ai @KX (ai @K0 @KY))) (ai (ai @KZ @KW) (ai @HM (ai @HL @B9))))) (ai (ai (ai (ai @Bu @Bv) (ai @Bw (ai @Bp @Bq))) (ai (ai @Br @Bs) (ai @Bn (ai @Bt @Bo)))) (ai (ai (ai @Option.bind_some.{0,0} @aS) (ai @aN (ai @BO @Ie))) (ai (ai @Ih @Ic) (ai @nC (ai @Ac @Ig)))))
def eu:=ai (ai (ai (ai @List.getElem?_cons_zero.{0} (ai @List.getElem?_cons_succ.{0} @List.drop_zero.{0})) (ai (ai @List.drop_succ_cons.{0} @List.take_succ_cons.{0}) (ai @List.take_zero.{0} @List.set_cons_zero.{0}))) (ai (ai (ai @List.set_cons_succ.{0} @List.cons_append.{0}) (ai @List.nil_append.{0} @List.length_cons.{0})) (ai (ai @List.length_nil.{0} @List.all_cons.{0}) (ai @List.all_nil.{0} @Bool.and_true)))) (ai (ai (ai (ai @Bool.and_self @Nat.zero_add) (ai @Nat.add_zero @bo)) (ai (ai @and_self @and_true) (ai @true_and @if_true.{1}))) (ai (ai (ai @aZ @hs) (ai @hS @ue)) (ai (ai @zN @wi) (ai @zM @zL))))
def c2:=ai (ai (ai (ai (ai @JG (ai @JI @JO)) (ai (ai @JY @JH) (ai @JE @JF))) (ai (ai (ai @JJ @JL) (ai @JM @JN)) (ai (ai @uW @uX) (ai @AQ @AP)))) (ai (ai (ai @JP (ai @Jy @Jz)) (ai (ai @JA @JB) (ai @JC @JD))) (ai (ai (ai @JQ @JS) (ai @JR @JT)) (ai (ai @JU @JV) (ai @JW @JX))))) (ai (ai (ai (ai @Kj (ai @Kn @Kp)) (ai (ai @xr @sY) (ai @xt @Kh))) (ai (ai (ai @A3 @A5) (ai @A4 @Ks)) (ai (ai @Kt @Ku) (ai @Kv @Kw)))) (ai (ai (ai @Kk (ai @Km @ra)) (ai (ai @A6 @Kl) (ai @Ki @Ko))) (ai (ai (ai @Kq @Kr) (ai @u0 @Kc)) (ai (ai @Kd @Ke) (ai @Kf @Kg)))))
def c3:=ai (ai (ai @D9 (ai @Eh @D_)) (ai @Ee (ai @Ed @Ec))) (ai (ai @Eb (ai @Ea @Ef)) (ai @Eg (ai @C6 @G3)))
def ed:=ai (ai (ai @af.vA @af.dS) (ai @af.get_set_same @af.get_set_other)) (ai (ai @af.ch @af.dK) (ai @af.HY @af.set_set))
def eF:=ai (ai (ai (ai (ai (ai (ai @Cw @Cx) (ai @Cg (ai @Cd @Ce))) (ai (ai @CB @Cs) (ai @Ct (ai @Cu @Cv)))) (ai (ai (ai @Cy @CC) (ai @CE (ai @CF @Cz))) (ai (ai @CA @Cp) (ai @Cq (ai @Ch @Cc))))) (ai (ai (ai (ai @Cj @Ck) (ai @Ci (ai @Co @Cr))) (ai (ai @Cl @Cf) (ai @Cm (ai @Cn @Dt)))) (ai (ai (ai @Du @Dv) (ai @Dw (ai @Dx @Dy))) (ai (ai @Dz @DA) (ai @DB (ai @DC @DD)))))) (ai (ai (ai (ai (ai @DF @DG) (ai @DH (ai @DI @DJ))) (ai (ai @DK @DL) (ai @rM (ai @rN @DM)))) (ai (ai (ai @DN @DO) (ai @DP (ai @DQ @DR))) (ai (ai @DS @DT) (ai @DU (ai @DV @DW))))) (ai (ai (ai (ai @DX @DY) (ai @DZ (ai @D0 @D1))) (ai (ai @D2 @D3) (ai @D4 (ai @D5 @D6)))) (ai (ai (ai @Dk @Dl) (ai @Dm (ai @Dn @Dp))) (ai (ai @Dq @Dr) (ai @Ds (ai @EB @EC))))))) (ai (ai (ai (ai (ai (ai @ED @EE) (ai @EG (ai @EH @EI))) (ai (ai @EJ @EK) (ai @EL (ai @EM @EN)))) (ai (ai (ai @EO @EP) (ai @ER (ai @ES @ET))) (ai (ai @EU @EV) (ai @EW (ai @EX @EY))))) (ai (ai (ai (ai @EZ @E0) (ai @E1 (ai @E2 @E3))) (ai (ai @E4 @E5) (ai @E6 (ai @E7 @E8)))) (ai (ai (ai @E9 @E_) (ai @Fa (ai @Fb @Fc))) (ai (ai @Fe @Ff) (ai @Fg (ai @Fh @Et)))))) (ai (ai (ai (ai (ai @Eu @Ev) (ai @Ew (ai @Ex @Ey))) (ai (ai @Ez @EA) (ai @Gs (ai @tS @vR)))) (ai (ai (ai @tT @vS) (ai @tU (ai @vT @vU))) (ai (ai @zq @oO) (ai @tV (ai @Gl @Gm))))) (ai (ai (ai (ai @Gn @Gp) (ai @vV (ai @zr @Gq))) (ai (ai @Gr @Gh) (ai @Gi (ai @Gj @Gk)))) (ai (ai (ai @Ft @Fu) (ai @Fv (ai @y0 @Fw))) (ai (ai @y1 (ai @y2 @Fx)) (ai @Fy (ai @yY @yZ)))))))
def Hl:=ai (ai @hs (ai @hS @ue)) (ai (ai @zN @wi) (ai @zM @zL))
def ak{p:Prop}(h:p:=by first|assumption|omega|(simp only[G8];omega)|(simp only[Hl];done)|fail):p:=h
def Vz{p:Prop}(h:p:=by first|assumption|omega|(simp only[G8];omega)|(simp only[Hl];done)|(simp only[List.length_append,List.length_cons,List.length_nil];omega)|fail):p:=h
def MT:(∀cs,(aa.agg cs).cells=cs)/\(∀b,(aa.bool b).cells=[Y b])/\(∀k n,(aa.int k n).cells=[.int k n])/\(∀s,(aa.str s).cells=[Z s])/\(∀l i c,(aa.ptr l i c).cells=[.ptr l i c])/\aa.nilPtr.cells=[.nilPtr]/\(∀l i n e c,(aa.aG l i n e c).cells=[.aG l i n e c])/\aa.aA.cells=[.aA]/\(∀f a b,(aa.func f a b).cells=[.func f a b])/\aa.nilFunc.cells=[.nilFunc]/\aa.nilIface.cells=[.nilIface]:=
 ⟨λ_=>rfl,λ_=>rfl,λ_ _=>rfl,λ_=>rfl,λ_ _ _=>rfl,rfl,λ_ _ _ _ _=>rfl,rfl,λ_ _ _=>rfl,rfl,rfl⟩
def az:=ai @bg.eq_1 (ai @c8.eq_1 (ai @ao.eq_1 (ai @ba.eq_1 (ai MT LP))))
end
abbrev aC:=List UInt8
structure Tok where
 kind:Int
 text:aC
 n:Int
 pos:Int
def Tok.none:Tok:=⟨0,[],0,0⟩
def aj(T:List Tok)(at_:Int):Tok:=if at_<0\/(T.length:Int)<=at_ then .none else T[at_.toNat]?.getD .none
structure al where
 at_:Int
 bk:Int
 an:Int
 bN:Int
abbrev e8(n:Int):Int:=IntKind.i64.wrap n
structure bU where
 kind:Int
 n:Int:=0
 name:aC:=[]
 b4:aC:=[]
 cy:Int:=0
 pos:Int:=0
 jc:Int:=0
 sX:Int:=0
 na:Int:=0
 ref:Int:=0
inductive aE where
 |mk (a:bU) (kids:List aE)
def aE.zero:aE:= .mk {kind:=0} []
def bz(T:List Tok)(s:al)(k:Int)(x:aC):Bool:=s.an==0&&((aj T s.at_).kind==k&&(aj T s.at_).text==x)
def bQ(T:List Tok)(e:Int)(s:al):al:=if s.an=0 then {s with an:=e,bN:=(aj T s.at_).pos}else s
def aw(s:al):al:={s with at_:=e8 (s.at_+1)}
def fY(T:List Tok)(k:Int)(x:aC)(s:al):Bool×al:=bif bz T s k x then(X,aw s)else(U,s)
def b8(T:List Tok)(x:aC)(s:al):Bool×al:=bif bz T s 4 x then(X,aw s)else(U,bQ T 2 s)
def da(T:List Tok)(x:aC)(s:al):Bool×al:=bif bz T s 4 x then(if 50<=s.bk then(U,bQ T 4 s)else(X,{s with at_:=e8 (s.at_+1),bk:=e8 (s.bk+1)}))else(U,bQ T 2 s)
def dU(s:al):al:={s with bk:=e8 (s.bk-1)}
def hP(T:List Tok)(x:aC)(s:al):Bool×al:=b8 T x (dU s)
def gM(T:List Tok):Nat->Int->al->(Int×al) ⊕ al
 |0,d,s=>bif bz T s 4 [91]then .inr (bQ T 4 s)else .inl (d,s)
 |n+1,d,s=>bif bz T s 4 [91]then gM T n (d+1) (aw s)else .inl (d,s)
def kb(T:List Tok)(x:aC):Nat->al->al
 |0,s=>s
 |n+1,s=>kb T x n (b8 T x s).2
def j1(T:List Tok)(d:Int)(s:al):(aC×Int)×al:=bif ((aj T s.at_).kind != 1&&(!bz T s 3 [105,110,116]&& !bz T s 3 [98,111,111,108]))then(([],0),bQ T 2 s) else(((aj T s.at_).text,d),kb T [93] d.toNat (aw s))
def dT(T:List Tok)(s:al):(aC×Int)×al:=match gM T 3 0 s with
 | .inr s'=>(([],0),s')
 | .inl (d,s')=>j1 T d s'
def lD:List (List (aC×Int)):=[[([124,124],24)],[([38,38],23)],[([60],19),([60,61],20),([61,61],21),([33,61],22)],[([43],14),([45],15)],[([42],16),([47],17),([37],18)]]
def oM(T:List Tok)(s:al):List (aC×Int)->Int
 |[]=>0
 |(x,k)::r=>bif bz T s 4 x then k else oM T s r
def mj(T:List Tok)(lev:Nat)(s:al):Int:=oM T s (lD[lev]?.getD [])
def A2(T:List Tok)(s:al):aE×al:=(.mk {kind:=2,n:=bif (aj T s.at_).text==[116,114,117,101]then 1 else 0,pos:=(aj T s.at_).pos} [],aw s)
def zH(T:List Tok)(s:al):aE×al:=(.mk {kind:=3,b4:=(dT T (aw s)).1.1,cy:=(dT T (aw s)).1.2,pos:=(aj T s.at_).pos} [],(dT T (aw s)).2)
def qy(T:List Tok)(s:al):aE×al:=(.mk {kind:=11,pos:=(aj T s.at_).pos} [],bif (da T [40] (aw s)).1 then(hP T [41] (da T [40] (aw s)).2).2 else(da T [40] (aw s)).2)
def jh(T:List Tok)(e:aE)(s:al):aE×al:=(.mk {kind:=5,name:=(aj T (aw s).at_).text,pos:=(aj T s.at_).pos} [e],aw (bif (aj T (aw s).at_).kind != 1 then bQ T 2 (aw s)else aw s))
abbrev ad(α:Type):=Option (α×al)
mutual
def gP(T:List Tok):Nat->Nat->al->ad aE
 |0,_,_=>C
 |n+1,lev,s=>if lev=5 then lX T n s else(gP T n (lev+1) s).bind λp=>iY T n lev p.1 p.2
def iY(T:List Tok):Nat->Nat->aE->al->ad aE
 |0,_,_,_=>C
 |n+1,lev,e,s=>if mj T lev s=0 then D (e,s)else
  (gP T n (lev+1) (aw s)).bind λp=>iY T n lev (.mk {kind:=mj T lev s,pos:=(aj T s.at_).pos} [e,p.1]) p.2
def lX(T:List Tok):Nat->al->ad aE
 |0,_=>C
 |n+1,s=>bif bz T s 4 [45]then pG T n [45] 12 s else bif bz T s 4 [33]then pG T n [33] 13 s else oE T n s
def pG(T:List Tok):Nat->aC->Int->al->ad aE
 |0,_,_,_=>C
 |n+1,x,k,s=>bif (da T x s).1 then(lX T n (da T x s).2).bind λp=>D (.mk {kind:=k,pos:=(aj T s.at_).pos} [p.1],dU p.2)else D (.zero,(da T x s).2)
def oE(T:List Tok):Nat->al->ad aE
 |0,_=>C
 |n+1,s=>(ky T n s).bind λp=>gm T n p.1 p.2
def gm(T:List Tok):Nat->aE->al->ad aE
 |0,_,_=>C
 |n+1,e,s=>bif s.an==0&&(aj T s.at_).kind==4 then
  (bif (aj T s.at_).text==[46]then gm T n (jh T e s).1 (jh T e s).2
  else bif (aj T s.at_).text==[91]then(jx T n [91] [93] s).bind λp=>gm T n (.mk {kind:=6,pos:=(aj T s.at_).pos} [e,p.1]) p.2
  else D (e,s))else D (e,s)
def jx(T:List Tok):Nat->aC->aC->al->ad aE
 |0,_,_,_=>C
 |n+1,b,c,s=>bif (da T b s).1 then(gP T n 0 (da T b s).2).bind λp=>D (p.1,(hP T c p.2).2)else D (.zero,(da T b s).2)
def ky(T:List Tok):Nat->al->ad aE
 |0,_=>C
 |n+1,s=>if s.an≠0 then D (.zero,s)else
  if(aj T s.at_).kind=2 then D (.mk {kind:=1,n:=(aj T s.at_).n,pos:=(aj T s.at_).pos} [],aw s)else
  if(aj T s.at_).kind=1 then qi T n s else
  if(aj T s.at_).kind=3\/(aj T s.at_).kind=4 then
   (bif (aj T s.at_).kind==4 then(bif (aj T s.at_).text==[40]then jx T n [40] [41] s else D (.zero,bQ T 2 s))
   else bif (aj T s.at_).text==[116,114,117,101]||(aj T s.at_).text==[102,97,108,115,101]then D (A2 T s)
   else bif (aj T s.at_).text==[110,117,108,108]then D (zH T s)
   else bif (aj T s.at_).text==[110,101,119]then qb T n s
   else bif (aj T s.at_).text==[108,101,110]then(jx T n [40] [41] (aw s)).bind λp=>D (.mk {kind:=10,pos:=(aj T s.at_).pos} [p.1],p.2)
   else bif (aj T s.at_).text==[114,101,97,100]then D (qy T s)
   else D (.zero,bQ T 2 s))
  else D (.zero,bQ T 2 s)
def qi(T:List Tok):Nat->al->ad aE
 |0,_=>C
 |n+1,s=>bif bz T (aw s) 4 [40]then(nw T n (aw s)).bind λp=>D (.mk {kind:=7,name:=(aj T s.at_).text,pos:=(aj T s.at_).pos} p.1,p.2)
  else D (.mk {kind:=4,name:=(aj T s.at_).text,pos:=(aj T s.at_).pos} [],aw s)
def qb(T:List Tok):Nat->al->ad aE
 |0,_=>C
 |n+1,s=>bif bz T (aw s) 4 [91]then
  (jx T n [40] [41] (b8 T [93] (dT T (aw (aw s))).2).2).bind λp=>
   D (.mk {kind:=9,b4:=(dT T (aw (aw s))).1.1,cy:=(dT T (aw (aw s))).1.2,pos:=(aj T s.at_).pos} [p.1],p.2)
  else D (.mk {kind:=8,b4:=(aj T (aw s).at_).text,pos:=(aj T s.at_).pos} [],aw (bif (aj T (aw s).at_).kind != 1 then bQ T 2 (aw s)else aw s))
def nw(T:List Tok):Nat->al->ad (List aE)
 |0,_=>C
 |n+1,s=>bif (da T [40] s).1 then
  (bif bz T (da T [40] s).2 4 [41]then D ([],(hP T [41] (da T [40] s).2).2)
  else(gP T n 0 (da T [40] s).2).bind λp=>jn T n [p.1] p.2)
  else D ([],(da T [40] s).2)
def jn(T:List Tok):Nat->List aE->al->ad (List aE)
 |0,_,_=>C
 |n+1,l,s=>bif (fY T 4 [44] s).1 then(gP T n 0 (fY T 4 [44] s).2).bind λp=>jn T n (l++[p.1]) p.2
  else D (l,(hP T [41] (fY T 4 [44] s).2).2)
end
def Tok.cells(t:Tok):List aa:=[I J t.kind,Z t.text,I J t.n,I J t.pos]
def Tok.v(t:Tok):aa:= .agg [I J t.kind,Z t.text,I J t.n,I J t.pos]
def ga(H:af)(v:aa)(T:List Tok):Prop:=(v= .aA/\T=[])\/∃l i cap,v= .aG l i T.length 4 cap/\(T=[]\/∃ro els,H.get l=D (.row ro 4 els)/\∀(k:Nat) (t:Tok),T[k]? =D t->els[i+k]? =D t.cells)
def kO(H:af)(r:Nat)(ax cc:aa)(s:al):Prop:=H.get r=D (.row U 6 [[ax,I J s.at_,I J s.bk,cc,I J s.an,I J s.bN]])
def Pf:List (List (List aa)):=[[[Z [124,124],I J 24]],[[Z [38,38],I J 23]],[[Z [60],I J 19],[Z [60,61],I J 20],[Z [61,61],I J 21],[Z [33,61],I J 22]],[[Z [43],I J 14],[Z [45],I J 15]],[[Z [42],I J 16],[Z [47],I J 17],[Z [37],I J 18]]]
def rl(H:af)(cc:aa):Prop:=∃l i cap ro els,cc= .aG l i 5 1 cap/\H.get l=D (.row ro 1 els)/\∀(k:Nat) (row:List (List aa)),Pf[k]? =D row->∃l' c d h a,els[i+k]? =D [.aG l' c row.length 2 d]/\H.get l'=D (.row h 2 a)/\∀(j:Nat) (e:List aa),row[j]? =D e->a[c+j]? =D e
def rk(H:af)(cc:aa):Prop:=cc= .aA\/rl H cc
structure ll(H:af)(r:Nat)(T:List Tok)(ax cc:aa)(s:al):Prop where
 rd:kO H r ax cc s
 bW:ga H ax T
 cc:rk H cc
abbrev cv(r:Nat):af->af->Prop:=dp (· =r)
def ga.a1{H H':af}{v:aa}{T:List Tok}(h:ga H v T)(p:∀l ro els,H.get l=D (.row ro 4 els)->H'.get l=D (.row ro 4 els)):ga H' v T:=by
 rcases h with h|⟨l,i,cap,c,a|⟨ro,els,a,d⟩⟩
 ·exact .inl h
 ·exact .inr ⟨l,i,cap,c,.inl a⟩
 ·exact .inr ⟨l,i,cap,c,.inr ⟨ro,els,p _ _ _ a,d⟩⟩
def ga.aR{H H':af}{v:aa}{T:List Tok}(h:ga H v T)(p:aU H H'):ga H' v T:=h.a1 λ_ _ _ e=>p.get e
def ga.one{H:af}{v:aa}{T:List Tok}(h:ga H v T):v.one=true:=by
 rcases h with⟨rfl,_⟩|⟨l,i,cap,rfl,_⟩<;>rfl
def rl.one{H:af}{v:aa}(h:rl H v):v.one=true:=by
 obtain⟨l,i,cap,ro,els,rfl,_⟩:=h;rfl
def rk.one{H:af}{v:aa}(h:rk H v):v.one=true:=by
 rcases h with rfl|h
 ·rfl
 ·exact h.one
def rl.a1{H H':af}{v:aa}(h:rl H v)(p:∀l ro n els,n≠6->H.get l=D (.row ro n els)->H'.get l=D (.row ro n els)):rl H' v:=by
 obtain⟨l,i,cap,ro,els,d,e,j⟩:=h;refine⟨l,i,cap,ro,els,d,p _ _ _ _ ae e,λk row m=> ?_⟩;obtain⟨l',o,a,q,c,aq,aH,bu⟩:=j k row m;exact⟨l',o,a,q,c,aq,p _ _ _ _ ae aH,bu⟩
def rk.a1{H H':af}{v:aa}(h:rk H v)(p:∀l ro n els,n≠6->H.get l=D (.row ro n els)->H'.get l=D (.row ro n els)):rk H' v:=by
 rcases h with rfl|h
 ·exact .inl rfl
 ·exact .inr (h.a1 p)
def kO.aR{H H':af}{r:Nat}{ax cc:aa}{s:al}(a:kO H r ax cc s)(p:aU H H'):kO H' r ax cc s:=p.get a
def kO.lt{H:af}{r:Nat}{ax cc:aa}{s:al}(a:kO H r ax cc s):r<H.next:=af.a6 a
def ll.mut{H H':af}{r:Nat}{T:List Tok}{ax cc:aa}{s s':al}(h:ll H r T ax cc s)(m:cv r H H')(c:kO H' r ax cc s'):ll H' r T ax cc s':=by
 have a:∀l ro n els,n≠6->H.get l=D (.row ro n els)->H'.get l=D (.row ro n els):=λl ro n els d e=>m.get e (by
  rintro rfl;rw[h.rd]at e;simp only[aZ,cb.row.injEq]at e;exact d e.2.1.symm)
 exact⟨c,h.bW.a1 λl ro els e=>a l ro 4 els ae e,h.cc.a1 a⟩
def ll.aR{H H':af}{r:Nat}{T:List Tok}{ax cc:aa}{s:al}(h:ll H r T ax cc s)(p:aU H H'):ll H' r T ax cc s:=h.mut (p.mut _) (h.rd.aR p)
def ml(c:Int):Bool:=(decide (97<=c)&&decide (c<=122))||(decide (65<=c)&&decide (c<=90))
def oH(c:Int):Bool:=decide (48<=c)&&decide (c<=57)
def dn(b:UInt8):Bool:=ml b.toNat
def dv(b:UInt8):Bool:=oH b.toNat
def ri:List aC:=[[114,101,99,111,114,100],[103,108,111,98,97,108],[102,117,110,99],[118,97,114],[108,101,116],[105,102],[101,108,115,101],[119,104,105,108,101],[114,101,116,117,114,110],[112,114,105,110,116],[110,117,108,108],[110,101,119],[108,101,110],[114,101,97,100],[116,114,117,101],[102,97,108,115,101],[105,110,116],[98,111,111,108]]
def fx(x:aC):List aC->Bool
 |[]=>U
 |y::a=>y==x||fx x a
def gk(x:aC):Bool:=fx x ri
def kP:aC->Bool
 |[]=>X
 |c::r=>(dn c||dv c)&&kP r
def ek(x:aC):Bool:=decide (1<=x.length)&&(decide (x.length<=8)&&(dn (x.headD 0)&&(!gk x&&kP x)))
def runN(d:Bool):aC->Nat
 |[]=>0
 |c::r=>bif dv c||(!d&&dn c)then runN d r+1 else 0
def iL:Int->aC->Option Int
 |n,[]=>D n
 |n,c::r=>if(9223372036854775807-((c.toNat:Int)-48))/10<n then C else iL (10*n+((c.toNat:Int)-48)) r
def jd:List aC:=[[60,61],[61,61],[33,61],[38,38],[124,124]]
def hT:aC:=[123,125,40,41,91,93,59,58,44,46,61,43,45,42,47,37,60,33]
def iV(c:UInt8):aC->Bool
 |[]=>U
 |y::a=>c.toNat==y.toNat||iV c a
def ih(s:aC):aC:=bif decide (2<=s.length)&&fx (s.take 2) jd then s.take 2 else match s with
 |c::_=>bif iV c hT then[c]else[]
 |[]=>[]
def h9(c:UInt8):Bool:=c.toNat==32||(c.toNat==9||(c.toNat==10||c.toNat==13))
def cV:Bool->aC->Nat
 |_,[]=>0
 |true,c::r=>bif c.toNat==10 then cV U r+1 else cV X r+1
 |false,c::r=>bif h9 c then cV U r+1 else bif c==47&&r.head?==D 47 then cV X r+1 else 0
def hr(s:aC):Option (Int×aC×Int×Nat):=match s with
 |[]=>C
 |c::_=>
  bif dn c then(bif gk (s.take (runN U s))then D (3,s.take (runN U s),0,runN U s)else bif ek (s.take (runN U s))then D (1,s.take (runN U s),0,runN U s)else C)
  else bif dv c then
   (match iL 0 (s.take (runN X s))with
   |none=>C
   |some v=>bif (decide (1<runN X s)&&c.toNat==48)||(decide (runN X s<s.length)&&dn ((s[runN X s]?).getD 0))then C else D (2,[],v,runN X s))
  else bif ih s==[]then C else D (4,ih s,0,(ih s).length)
def gK:Nat->aC->Nat->Nat ⊕ List Tok
 |0,_,p=> .inl p
 |_+1,[],p=> .inr [⟨0,[],0,p⟩]
 |n+1,c::r,p=>match hr (c::r)with
  |none=> .inl p
  |some (k,t,v,m)=>match gK n (((c::r).drop m).drop (cV U ((c::r).drop m))) (p+m+cV U ((c::r).drop m))with
   | .inl e=> .inl e
   | .inr l=> .inr (⟨k,t,v,p⟩::l)
def r9(s:aC):Nat ⊕ List Tok:=gK (s.length+1) (s.drop (cV U s)) (cV U s)
def dB(s:aC):List Tok×Int×Int:=if 6000<s.length then([],4,0)else match r9 s with
 | .inl e=>([],1,e)
 | .inr l=>(l,0,0)
def OM(s:List UInt8)(k:Int):fC P 9 (Z s) (I J k)=if 0<=k then(match s[k.toNat]? with|some b=>D (I .u8 b.toNat)|none=>C)else none:=ah
def lC{s:List UInt8}{k:Nat}{b:UInt8}(h:s[k]? =D b):fC P 9 (Z s) (I J (k:Int))=D (I .u8 b.toNat):=by
 rw[OM,if_pos ae];simp[h]
def ON{s:List UInt8}{b:UInt8}(h:s[0]? =D b):fC P 9 (Z s) (I J 0)=D (I .u8 b.toNat):=lC (k:=0) h
def nd(a b:Nat)(h:a+b<=4000000000000000000):IntKind.i64.wrap ((a:Int)+(b:Int))=((a+b:Nat):Int):=by rw[wrap_i64 ae ae];omega
def jU(a:Nat)(h:a<=4000000000000000000):IntKind.i64.wrap ((a:Int)+1)=((a+1:Nat):Int):=by rw[wrap_i64 ae ae];omega
def xA(a:Nat)(h:a<=4000000000000000000):IntKind.i64.wrap ((a:Int)+2)=((a+2:Nat):Int):=by rw[wrap_i64 ae ae];omega
def KT(a b:Nat)(h:a<=4000000000000000000)(c:b<=a):IntKind.i64.wrap ((a:Int)-(b:Int))=((a-b:Nat):Int):=by rw[wrap_i64 ae ae];omega
def r7{H:af}(c:Int):W (aI P aB 62 [I .u8 c] H) λv H'=>v= Y (ml c)/\H'=H:=by
 refine cO (λ_=>RG 0) ?_;unfold ml;cases a:decide (97<=c)<;>cases d:decide (c<=122)<;>cases e:decide (65<=c)<;>cases h:decide (c<=90)<;>
  (simp-implicitDefEqProofs(disch:=try exact ak)only[xd,bg,bG,c3,a,d,e,h];exact a_.2 ⟨rfl,rfl⟩)
def yw{H:af}(c:Int):W (aI P aB 66 [I .u8 c] H) λv H'=>v= Y (oH c)/\H'=H:=by
 refine cO (λ_=>RK 0) ?_;unfold oH;cases a:decide (48<=c)<;>cases d:decide (c<=57)<;>
  (simp-implicitDefEqProofs(disch:=try exact ak)only[xe,bg,bG,c3,a,d];exact a_.2 ⟨rfl,rfl⟩)
def drop_cons{s:aC}{k:Nat}{c:UInt8}{r:aC}(h:s.drop k=c::r):s[k]? =D c/\s.drop (k+1)=r/\k<s.length/\s.length=k+1+r.length:=by
 have a:s[k]? =D c:=by
  have:=List.getElem?_drop (xs:=s) (i:=k) (j:=0);rw[h]at this;simpa using this.symm
 have d:s.drop (k+1)=r:=by
  have:(s.drop k).drop 1=r:=by rw[h];rfl
  rwa[List.drop_drop]at this
 have e:k<s.length:=(List.getElem?_eq_some_iff.1 a).1;have l:=congrArg List.length h;simp at l;exact⟨a,d,e,ae⟩
def drop_nil{s:aC}{k:Nat}(h:s.drop k=[]):s.length<=k:=List.drop_eq_nil_iff.1 h
def IN{H:af}{s:aC}(ar:s.length<=1000000000000000000)(at_:Nat)(d:Bool)(N:Nat):∀(rest:aC) (n m:Nat),s.drop (at_+n)=rest->at_+n<=s.length->rest.length<m->
  W (nX (aI P aB) N m (Z s) (I J at_) (Y d) (I J n) H) λv H'=>v= I J ((n+runN d rest:Nat):Int)/\H'=H
 |_,_,0,_,_,hm=>ae
 |[],n,m+1,h,p,hm=>by
  have:=drop_nil h;have i:¬(((at_+n:Nat):Int)<(s.length:Int)):=ae;simp-implicitDefEqProofs(disch:=try exact ak)only[nX,k7,mM,lP,reduceAdd,reduceLeDiff,reduceIte,az,nd,i,decide_false];exact a_.2 ⟨by simp[runN],rfl⟩
 |c::r,n,m+1,h,p,hm=>by
  obtain⟨aq,aH,bu,cq⟩:=drop_cons h;have i:(((at_+n:Nat):Int)<(s.length:Int)):=ae;have q:=IN (H:=H) ar at_ d N r (n+1) m (by rw[<-Nat.add_assoc];exact aH) ae (by simp at hm;omega);have j:=lC aq;simp-implicitDefEqProofs(disch:=try exact ak)only[nX,k7,mM,lP,reduceAdd,reduceLeDiff,reduceIte,az,nd,i,decide_true,j];refine rq (yw _) ?_;have fin:∀b,(dv c||(!d&&dn c))=b->(b=X->W (nX (aI P aB) N m (Z s) (I J at_) (Y d) (I J ((n+1:Nat):Int)) H) λv H'=>v= I J ((n+runN d (c::r):Nat):Int)/\H'=H)/\(b=U->n+runN d (c::r)=n):=by
   intro b k;refine⟨λh=> ?_,λh=> ?_⟩
   ·refine q.mono ?_;rintro v H' ⟨rfl,rfl⟩;subst h;have e:runN d (c::r)=runN d r+1:=by rw[runN,k];rfl
    have o:n+1+runN d r=n+runN d (c::r):=by rw[e];omega
    exact⟨by rw[o],rfl⟩
   ·subst h;rw[runN,k];rfl
  cases a:oH (c.toNat:Int)with
  |true=>
   simp-implicitDefEqProofs(disch:=try exact ak)only[k7,mM,lP,bg,bG,c3,jU];exact(fin X (by simp[dv,a])).1 rfl
  |false=>
   cases d with
   |true=>
    simp-implicitDefEqProofs(disch:=try exact ak)only[k7,mM,lP,bg,bG,Bool.not_true];exact a_.2 ⟨by rw[(fin U (by simp[dv,a])).2 rfl],rfl⟩
   |false=>
    simp-implicitDefEqProofs(disch:=try exact ak)only[k7,mM,lP,reduceAdd,reduceLeDiff,reduceIte,az,Bool.not_false,nd,j];refine rq (r7 _) ?_;cases l:ml (c.toNat:Int)with
    |true=>
     simp-implicitDefEqProofs(disch:=try exact ak)only[k7,mM,lP,bg,bG,c3,jU];exact(fin X (by simp[dv,dn,a,l])).1 rfl
    |false=>
     simp-implicitDefEqProofs(disch:=try exact ak)only[k7,mM,lP,bg,bG];exact a_.2 ⟨by rw[(fin U (by simp[dv,dn,a,l])).2 rfl],rfl⟩
def IS{H:af}{s:aC}(ar:s.length<=1000000000000000000)(at_:Nat)(a:at_<=s.length)(d:Bool):W (aI P aB 63 [Z s,I J at_,Y d] H) λv H'=>v= I J (runN d (s.drop at_):Nat)/\H'=H:=by
 refine cO (λ_=>RH (s.length+1)) ?_;rw[lP];have:=IN (H:=H) ar at_ d (s.length+1) (s.drop at_) 0 (s.length+1) rfl ae (by simp;omega);simpa using this
def BE{H:af}{x:aC}{l:Nat}(N:Nat)(all:List aC)(h:all.length<=1000)(d:H.get l=D (.row U 1 (all.map λy=>[aa.str y]))):∀(rest pre:List aC),all=pre++rest->∀(m:Nat),rest.length<m->
  W (px (aI P aB) N m (Z x) (.aG l 0 all.length 1 (D all.length)) (I J pre.length) H) λv H'=>v= Y (fx x rest)/\H'=H
 |_,_,_,0,hm=>ae
 |[],pre,aF,m+1,hm=>by
  have a:¬((pre.length:Int)<(all.length:Int)):=by rw[aF];simp
  simp-implicitDefEqProofs(disch:=try exact ak)only[px,nY,qX,qW,pw,reduceAdd,reduceLeDiff,reduceIte,az,a,decide_false];exact a_.2 ⟨rfl,rfl⟩
 |y::i,pre,aF,m+1,hm=>by
  have a:((pre.length:Int)<(all.length:Int)):=by rw[aF];simp;omega
  have j:(0:Int)<=(pre.length:Int):=ae;have aq:((pre.length:Int)).toNat=pre.length:=ae;have hle:pre.length<all.length:=ae;have he:(all.map λy=>[aa.str y])[pre.length]? =D [aa.str y]:=by rw[aF];simp
  have hw:((pre++[y]).length:Int)=((pre.length+1:Nat):Int):=by simp
  simp-implicitDefEqProofs(disch:=try exact ak)only[px,nY,qX,qW,pw,reduceAdd,reduceLeDiff,reduceIte,az,a,decide_true,d,aq,he];cases c:y==x with
  |true=>
   simp-implicitDefEqProofs(disch:=try exact ak)only[nY,qX,qW,pw,bg,bG];exact a_.2 ⟨by simp[fx,c],rfl⟩
  |false=>
   have e:=BE (H:=H) (x:=x) N all h d i (pre++[y]) (by simp[aF]) m (by simp at hm;omega);rw[hw]at e;simp-implicitDefEqProofs(disch:=try exact ak)only[nY,qX,qW,pw,bg,bG,c3,jU];refine e.mono ?_;rintro v H' ⟨rfl,rfl⟩;exact⟨by simp[fx,c],rfl⟩
def BF{H:af}(x:aC):W (aI P aB 64 [Z x] H) λv H'=>v= Y (gk x)/\aU H H':=by
 refine cO (λ_=>RI 19) ?_;rw[pw];have hw:W (aI P aB 81 [] H) λv H'=>v= .aG H.next 0 ri.length 1 (D ri.length)/\H'=H.push (.row U 1 (ri.map λy=>[aa.str y])):=by
  refine cO (λ_=>RT 0) ?_;rw[xg];simp only[xG,Au];exact a_.2 ⟨rfl,rfl⟩
 refine aW hw ?_;rintro _ _ ⟨rfl,rfl⟩;refine⟨(aU.push _ _).1,?_⟩;rw[qW];refine(BE (x:=x) 19 ri aK (af.bY _ _) ri [] rfl 19 aK).mono ?_;rintro v H' ⟨rfl,rfl⟩;exact⟨rfl,aU.push _ _⟩
def By{H:af}{s:aC}(ar:s.length<=1000000000000000000)(N:Nat):∀(rest:aC) (n m:Nat),s.drop n=rest->n<=s.length->rest.length<m->
  W (py (aI P aB) N m (Z s) (I J n) H) λv H'=>v= Y (kP rest)/\H'=H
 |_,_,0,_,_,hm=>ae
 |[],n,m+1,h,l,hm=>by
  have:=drop_nil h;have a:¬((n:Int)<(s.length:Int)):=ae;simp-implicitDefEqProofs(disch:=try exact ak)only[py,iI,jO,jv,reduceAdd,reduceLeDiff,reduceIte,az,a,decide_false];exact a_.2 ⟨by simp[kP],rfl⟩
 |c::r,n,m+1,h,l,hm=>by
  obtain⟨aq,aH,bu,cq⟩:=drop_cons h;have a:((n:Int)<(s.length:Int)):=ae;have k:=By (H:=H) ar N r (n+1) m aH ae (by simp at hm;omega);have d:=lC aq;simp-implicitDefEqProofs(disch:=try exact ak)only[py,iI,jO,jv,reduceAdd,reduceLeDiff,reduceIte,az,a,decide_true,d];refine oy (r7 _) ?_;cases j:ml (c.toNat:Int)with
  |true=>
   simp-implicitDefEqProofs(disch:=try exact ak)only[iI,jO,jv,bg,bG,c3,Bool.not_true,jU];refine k.mono ?_;rintro v H' ⟨rfl,e⟩;exact⟨by simp[kP,dn,j],e⟩
  |false=>
   simp-implicitDefEqProofs(disch:=try exact ak)only[iI,jO,jv,reduceAdd,reduceLeDiff,reduceIte,az,Bool.not_false,d];refine rq (yw _) ?_;cases i:oH (c.toNat:Int)with
   |true=>
    simp-implicitDefEqProofs(disch:=try exact ak)only[iI,jO,jv,bg,bG,c3,Bool.not_true,jU];refine k.mono ?_;rintro v H' ⟨rfl,e⟩;exact⟨by simp[kP,dv,i],e⟩
   |false=>
    simp-implicitDefEqProofs(disch:=try exact ak)only[iI,jO,jv,bg,bG,c3,Bool.not_false];exact a_.2 ⟨by simp[kP,dn,dv,j,i],rfl⟩
def Lf{H:af}{s:aC}(ar:s.length<=1000000000000000000):W (aI P aB 65 [Z s] H) λv H'=>v= Y (ek s)/\aU H H':=by
 refine cO (λ_=>RJ (s.length+1)) ?_;cases d:s with
 |nil=>
  have a:((([]:aC).length:Nat):Int)<1:=by simp
  simp-implicitDefEqProofs(disch:=try exact ak)only[iI,jO,jv,bg,bG,eF,c3,a,decide_true];exact a_.2 ⟨by simp[ek],.refl _⟩
 |cons c r=>
  rw[<-d];have p:1<=s.length:=by rw[d];simp
  have a:¬((s.length:Int)<1):=ae;have n:s[0]? =D c:=by rw[d];rfl
  have o:=ON n;have l:s.headD 0=c:=by rw[d];rfl
  by_cases j:(8:Int)<(s.length:Int)
  ·have h:¬s.length<=8:=ae;simp-implicitDefEqProofs(disch:=try exact ak)only[iI,jO,jv,bg,bG,eF,c3,a,j,decide_true,decide_false];exact a_.2 ⟨by simp[ek,h],.refl _⟩
  ·have h:s.length<=8:=ae;simp-implicitDefEqProofs(disch:=try exact ak)only[iI,jO,jv,bg,bG,eF,c3,a,j,decide_false,o];refine rq (r7 _) ?_;cases k:ml (c.toNat:Int)with
   |false=>
    simp-implicitDefEqProofs(disch:=try exact ak)only[iI,jO,jv,bg,bG,Bool.not_false];exact a_.2 ⟨by unfold ek;rw[l];simp[dn,k],.refl _⟩
   |true=>
    simp-implicitDefEqProofs(disch:=try exact ak)only[iI,jO,jv,bg,bG,Bool.not_true];refine hl (BF s) ?_;rintro _ m ⟨rfl,i⟩;refine⟨i.1,?_⟩;cases hw:gk s with
    |true=>
     simp-implicitDefEqProofs(disch:=try exact ak)only[iI,jO,jv,bg,bG];exact a_.2 ⟨by simp[ek,hw],i⟩
    |false=>
     simp-implicitDefEqProofs(disch:=try exact ak)only[iI,jv,bg,bG];refine(By (H:=m) ar (s.length+1) s 0 (s.length+1) rfl ae ae).mono ?_;rintro v H' ⟨rfl,e⟩;exact⟨by unfold ek;rw[l];simp[p,h,dn,k,hw],by rw[e];exact i⟩
def CZ(n:Int):oz P 5 3 (I .u8 n)=D (I J (IntKind.i64.wrap n)):=ah
def H8(t:Bool)(a:Int):au P .quo 3 t (I J a) (I J 10)=D (I J (IntKind.i64.wrap (a.tdiv 10))):=by simp[au,ji]
def Pw(t:Bool)(a b:Int):au P .mul 3 t (I J a) (I J b)=D (I J (IntKind.i64.wrap (a*b))):=Np _ _ _ _ _
def wrap_u8{n:Int}(a:0<=n)(c:n<=255):IntKind.u8.wrap n=n:=by
 show n%256=n;omega
def KO{H:af}{s:aC}(ar:s.length<=1000000000000000000)(N:Nat):∀(rest:aC) (n m:Nat) (acc:Int),s.drop n=rest->n<=s.length->rest.length<m->0<=acc->acc<=9223372036854775807->(∀c∈rest,dv c=X)->
  W (nZ (aI P aB) N m (Z s) (I J acc) (I J n) H) λv H'=>v=(match iL acc rest with|some z=> .tuple [I J z,Y X]|none=> .tuple [I J 0,Y U])/\H'=H
 |_,_,0,_,_,_,hm,_,_,_=>ae
 |[],n,m+1,acc,h,y,hm,w,x,j=>by
  have:=drop_nil h;have a:¬((n:Int)<(s.length:Int)):=ae;simp-implicitDefEqProofs(disch:=try exact ak)only[nZ,pz,sN,qY,reduceAdd,reduceLeDiff,reduceIte,az,a,decide_false];exact a_.2 ⟨by simp[iL],rfl⟩
 |c::r,n,m+1,acc,h,y,hm,w,x,j=>by
  obtain⟨aq,aH,bu,cq⟩:=drop_cons h;have a:((n:Int)<(s.length:Int)):=ae;have k:=lC aq;have i:=j c (by simp);simp only[dv,oH,Bool.and_eq_true,decide_eq_true_eq]at i;have l:IntKind.u8.wrap ((c.toNat:Int)-48)=(c.toNat:Int)-48:=wrap_u8 ae ae;have o:IntKind.i64.wrap ((c.toNat:Int)-48)=(c.toNat:Int)-48:=wrap_i64 ae ae;have p:IntKind.i64.wrap (9223372036854775807-((c.toNat:Int)-48))=9223372036854775807-((c.toNat:Int)-48):=wrap_i64 ae ae;have q:(9223372036854775807-((c.toNat:Int)-48)).tdiv 10=(9223372036854775807-((c.toNat:Int)-48))/10:=Int.tdiv_eq_ediv_of_nonneg ae;have u:IntKind.i64.wrap ((9223372036854775807-((c.toNat:Int)-48))/10)=(9223372036854775807-((c.toNat:Int)-48))/10:=wrap_i64 ae ae
  by_cases d:(9223372036854775807-((c.toNat:Int)-48))/10<acc
  ·simp-implicitDefEqProofs(disch:=try exact ak)only[nZ,pz,sN,qY,reduceAdd,reduceLeDiff,reduceIte,az,a,decide_true,k,l,o,p,q,u,H8,s7,CZ,d];exact a_.2 ⟨by simp[iL,d],rfl⟩
  ·have B:IntKind.i64.wrap (10*acc)=10*acc:=wrap_i64 ae ae;have E:IntKind.i64.wrap (10*acc+((c.toNat:Int)-48))=10*acc+((c.toNat:Int)-48):=wrap_i64 ae ae;have A:=KO (H:=H) ar N r (n+1) m (10*acc+((c.toNat:Int)-48)) aH ae (by simp at hm;omega) ae ae (λc i=>j c (by simp[i]));simp-implicitDefEqProofs(disch:=try exact ak)only[nZ,pz,sN,qY,reduceAdd,reduceLeDiff,reduceIte,az,a,decide_true,k,l,o,p,q,u,B,E,H8,Pw,s7,CZ,d,decide_false,jU];refine A.mono ?_;rintro v H' ⟨rfl,e⟩;exact⟨by rw[iL,if_neg d],e⟩
def IK:∀(s:aC),∀c∈s.take (runN X s),dv c=X
 |[],c,h=>by simp[runN]at h
 |x::r,c,h=>by
  rw[runN]at h;cases a:dv x with
  |true=>
   simp only[a,Bool.true_or,aS,List.take_succ_cons,List.mem_cons]at h;rcases h with rfl|h
   ·exact a
   ·exact IK r c h
  |false=>simp[a]at h
def Vl{H:af}{s:aC}(ar:s.length<=1000000000000000000)(a:∀c∈s,dv c=X):W (aI P aB 67 [Z s] H) λv H'=>v=(match iL 0 s with|some z=> .tuple [I J z,Y X]|none=> .tuple [I J 0,Y U])/\H'=H:=by
 refine cO (λ_=>RL (s.length+1)) ?_;rw[qY];exact KO ar (s.length+1) s 0 (s.length+1) 0 rfl ae ae ae ae a
def Ve:P.underlying 9=D .string:=ah
def uR{s:List UInt8}{a b:Nat}(c:a<=b)(d:b<=s.length):lp P 9 (Z s) (D (I J (a:Int))) (D (I J (b:Int))) C=D (Z ((s.drop a).take (b-a))):=by
 have aq:fB (D (I J (b:Int))) s.length s.length=D b:=by simp[fB];omega
 have aH:fB (D (I J (a:Int))) 0 b=D a:=by simp[fB];omega
 simp only[lp,Ve,aq,aH]
def Ho{H:af}{s:aC}{at_:Nat}{c:UInt8}(l:s[at_]? =D c)(N:Nat):∀(rest:aC) (j m:Nat),hT.drop j=rest->j<=18->rest.length<m->
  W (n1 (aI P aB) N m (Z s) (I J at_) (Z hT) (I J j) H) λv H'=>v= Z (bif iV c rest then[c]else[])/\H'=H
 |_,_,0,_,_,hm=>ae
 |[],j,m+1,h,q,hm=>by
  have:=drop_nil h;have u:hT.length=18:=rfl;have d:¬((j:Int)<(hT.length:Int)):=ae;simp-implicitDefEqProofs(disch:=try exact ak)only[n1,k8,sO,mP,mO,mN,lQ,reduceAdd,reduceLeDiff,reduceIte,az,d,decide_false];exact a_.2 ⟨by simp[iV],rfl⟩
 |y::r,j,m+1,h,q,hm=>by
  obtain⟨aq,aH,bu,cq⟩:=drop_cons h;have u:hT.length=18:=rfl;have d:((j:Int)<(hT.length:Int)):=ae;have k:=lC aq;have n:=lC l;have w:=Ho (H:=H) l N r (j+1) m aH ae (by simp at hm;omega);have p:=uR (s:=hT) (a:=j) (b:=j+1) ae ae;have er:(hT.drop j).take (j+1-j)=[y]:=by rw[h,Nat.add_sub_cancel_left];rfl
  rw[er]at p;cases he:((c.toNat:Int)==(y.toNat:Int))with
  |true=>
   have o:c=y:=by
    have:(c.toNat:Int)=(y.toNat:Int):=by simpa using he
    exact UInt8.toNat_inj.1 ae
   have i:(c.toNat==y.toNat)=true:=by rw[o];simp
   simp-implicitDefEqProofs(disch:=try exact ak)only[n1,k8,sO,mP,mO,mN,lQ,reduceAdd,reduceLeDiff,reduceIte,az,d,decide_true,k,n,he,jU,p];exact a_.2 ⟨by simp[iV,i,o],rfl⟩
  |false=>
   have i:(c.toNat==y.toNat)=false:=by
    have:¬(c.toNat:Int)=(y.toNat:Int):=by simpa using he
    simp;omega
   simp-implicitDefEqProofs(disch:=try exact ak)only[n1,k8,sO,mP,mO,mN,lQ,reduceAdd,reduceLeDiff,reduceIte,az,d,decide_true,k,n,he,jU];refine w.mono ?_;rintro v H' ⟨rfl,e⟩;exact⟨by simp[iV,i],e⟩
def PU{H:af}{s:aC}{at_:Nat}{c:UInt8}(a:s[at_]? =D c){N:Nat}(d:18<N):W (mP (aI P aB) N (Z s) (I J at_) H) λv H'=>v= Z (bif iV c hT then[c]else[])/\H'=H:=by
 rw[mP];exact Ho a N hT 0 N rfl ae (by simp[hT];omega)
def Ky{H:af}{s:aC}(ar:s.length<=1000000000000000000){at_:Nat}{c:UInt8}{r:aC}(n:s.drop at_=c::r){l:Nat}{N:Nat}(w:18<N)(i:H.get l=D (.row U 1 (jd.map λy=>[aa.str y]))):∀(rest pre:List aC),jd=pre++rest->∀(m:Nat),rest.length<m->
  W (mQ (aI P aB) N m (Z s) (I J at_) (.aG l 0 5 1 (D 5)) (I J pre.length) H) λv H'=>v= Z (bif decide (2<=(s.drop at_).length)&&fx ((s.drop at_).take 2) rest then(s.drop at_).take 2 else bif iV c hT then[c]else[])/\H'=H
 |_,_,_,0,hm=>ae
 |[],pre,aF,m+1,hm=>by
  have B:pre.length=5:=by have:=congrArg List.length aF;simpa [jd]using this.symm
  have d:¬((pre.length:Int)<((5:Nat):Int)):=ae;obtain⟨aq,aH,bu,cq⟩:=drop_cons n;simp-implicitDefEqProofs(disch:=try exact ak)only[mQ,k8,mO,mN,lQ,reduceAdd,reduceLeDiff,reduceIte,az,d,decide_false];refine(PU aq w).mono ?_;rintro v H' ⟨rfl,e⟩;exact⟨by simp[fx],e⟩
 |y::A,pre,aF,m+1,hm=>by
  obtain⟨aq,aH,bu,cq⟩:=drop_cons n;have B:pre.length+(A.length+1)=5:=by have:=congrArg List.length aF;simpa [jd]using this.symm
  have d:((pre.length:Int)<((5:Nat):Int)):=ae;have E:(0:Int)<=(pre.length:Int):=ae;have t1:((pre.length:Int)).toNat=pre.length:=ae;have he:(jd.map λy=>[aa.str y])[pre.length]? =D [aa.str y]:=by rw[aF];simp
  have hw:((pre++[y]).length:Int)=((pre.length+1:Nat):Int):=by simp
  have q:=Ky (H:=H) ar n w i A (pre++[y]) (by simp[aF]) m (by simp at hm;omega);rw[hw]at q;have x:(s.drop at_).length=s.length-at_:=by simp
  have u:IntKind.i64.wrap ((s.length:Int)-(at_:Int))=((s.length-at_:Nat):Int):=KT s.length at_ ae ae;have F:=af.a6 i;by_cases j:(2:Int)<=((s.length-at_:Nat):Int)
  ·have k:decide (2<=(s.drop at_).length)=true:=by rw[x];simp;omega
   have o:=uR (s:=s) (a:=at_) (b:=at_+2) ae ae;rw[Nat.add_sub_cancel_left]at o;cases h:((s.drop at_).take 2==y)with
   |true=>
    have z:(s.drop at_).take 2=y:=by simpa using h
    have p:(y==(s.drop at_).take 2)=true:=by rw[z];simp
    simp-implicitDefEqProofs(disch:=try exact ak)only[mQ,k8,mO,mN,lQ,reduceAdd,reduceLeDiff,reduceIte,az,d,decide_true,u,j,xA,o,i,he,t1,h];exact a_.2 ⟨by rw[fx,k,p];rw[z];rfl,rfl⟩
   |false=>
    have p:(y==(s.drop at_).take 2)=false:=by
     have:¬(s.drop at_).take 2=y:=by simpa using h
     simp;exactλe=>this e.symm
    simp-implicitDefEqProofs(disch:=try exact ak)only[mQ,k8,mO,mN,lQ,reduceAdd,reduceLeDiff,reduceIte,az,d,decide_true,u,j,xA,o,i,he,t1,h,jU];refine q.mono ?_;rintro v H' ⟨rfl,e⟩;exact⟨by simp only[fx,p,Bool.false_or],e⟩
  ·have k:decide (2<=(s.drop at_).length)=false:=by rw[x];simp;omega
   simp-implicitDefEqProofs(disch:=try exact ak)only[mQ,k8,mO,mN,lQ,reduceAdd,reduceLeDiff,reduceIte,az,d,decide_true,u,j,decide_false,jU];refine q.mono ?_;rintro v H' ⟨rfl,e⟩;exact⟨by simp only[k,Bool.false_and],e⟩
def Ui{H:af}{s:aC}(ar:s.length<=1000000000000000000){at_:Nat}(d:at_<s.length):W (aI P aB 68 [Z s,I J at_] H) λv H'=>v= Z (ih (s.drop at_))/\aU H H':=by
 refine cO (λ_=>RM 30) ?_;obtain⟨c,r,a⟩:∃c r,s.drop at_=c::r:=by
  cases h:s.drop at_ with
  |nil=>have:=drop_nil h;omega
  |cons c r=>exact⟨c,r,rfl⟩
 rw[lQ];simp only[xG];rw[mN];refine(Ky (H:=H.push _) ar a ae (af.bY _ _) jd [] rfl 30 aK).mono ?_;rintro v H' ⟨rfl,rfl⟩;refine⟨?_,aU.push _ _⟩;rw[a];rfl
def Iq{H:af}{s:aC}(ar:s.length<=1000000000000000000)(l:aa->aa->af->O)(N:Nat)(Q:aa->af->Prop):∀(rest:aC) (at_ m:Nat),s.drop at_=rest->at_<=s.length->rest.length<m->
  (∀(k:Nat),(∀c' cL,rest=c'::cL->c'.toNat≠10->0<k)->at_+k<=s.length->(s.drop (at_+k)).length<=rest.length->k+cV U (s.drop (at_+k))=cV X rest->W (l (Z s) (I J ((at_+k:Nat):Int)) H) Q)->
  W (nS (aI P aB) N l m (Z s) (I J at_) H) Q
 |_,_,0,_,_,hm,_=>ae
 |[],at_,m+1,h,n,hm,j=>by
  have:=drop_nil h;have a:¬((at_:Int)<(s.length:Int)):=ae;simp-implicitDefEqProofs(disch:=try exact ak)only[nS,iZ,sD,jJ,reduceAdd,reduceLeDiff,reduceIte,az,a,decide_false];exact j 0 (λ_ _ e=>by cases e) n (by simpa using congrArg List.length h) (by simp[h,cV])
 |c::r,at_,m+1,h,n,hm,j=>by
  obtain⟨aq,aH,bu,cq⟩:=drop_cons h;have a:((at_:Int)<(s.length:Int)):=ae;have o:=lC aq;cases d:((c.toNat:Int) != 10)with
  |false=>
   have i:c.toNat=10:=by
    have:(c.toNat:Int)=10:=by simpa using d
    omega
   simp-implicitDefEqProofs(disch:=try exact ak)only[nS,iZ,sD,jJ,reduceAdd,reduceLeDiff,reduceIte,az,a,decide_true,o,d];refine j 0 (λ_ _ e v=>by cases e;exact absurd i v) n (by simp only[Nat.add_zero,h];omega) ?_;simp[h,cV,h9,i]
  |true=>
   have i:(c.toNat==10)=false:=by
    have:¬(c.toNat:Int)=10:=by simpa using d
    simp;omega
   simp-implicitDefEqProofs(disch:=try exact ak)only[nS,iZ,sD,jJ,reduceAdd,reduceLeDiff,reduceIte,az,a,decide_true,o,d,jU];refine Iq ar l N Q r (at_+1) m aH ae (by simp at hm;omega) (λk _ a p q=> ?_);have u:at_+1+k=at_+(k+1):=ae;rw[u]at a p q ⊢;refine j (k+1) (λ_ _ _ _=>ae) a (by simp only[List.length_cons];omega) ?_;simp only[cV,i,aN];omega
def yl{H:af}{s:aC}(ar:s.length<=1000000000000000000)(N:Nat)(Q:s.length<N):∀(q:Nat) (rest:aC) (at_ m:Nat),rest.length<=q->s.drop at_=rest->at_<=s.length->rest.length<m->
  W (ju (aI P aB) N m (Z s) (I J at_) H) λv H'=>v= I J ((at_+cV U rest:Nat):Int)/\H'=H
 |_,_,_,0,_,_,_,hm=>ae
 |_,[],at_,m+1,_,h,L,hm=>by
  have:=drop_nil h;have j:¬((at_:Int)<(s.length:Int)):=ae;simp-implicitDefEqProofs(disch:=try exact ak)only[ju,iZ,lO,jJ,reduceAdd,reduceLeDiff,reduceIte,az,j,decide_false];exact a_.2 ⟨by simp[cV],rfl⟩
 |0,c::r,at_,m+1,B,h,L,hm=>by simp at B
 |q+1,c::r,at_,m+1,B,h,L,hm=>by
  obtain⟨aq,aH,bu,cq⟩:=drop_cons h;have j:((at_:Int)<(s.length:Int)):=ae;have o:=lC aq;simp only[List.length_cons]at B hm;have F:h9 c=X->W (ju (aI P aB) N m (Z s) (I J ((at_+1:Nat):Int)) H) λv H'=>v= I J ((at_+cV U (c::r):Nat):Int)/\H'=H:=by
   intro M;refine(yl (H:=H) ar N Q q r (at_+1) m ae aH ae ae).mono ?_;rintro v H' ⟨rfl,e⟩;have S:at_+1+cV U r=at_+cV U (c::r):=by
    rw[cV,M,aS];omega
   exact⟨by rw[S],e⟩
  have p:((c.toNat:Int)==32)=(c.toNat==32):=by rw[Bool.eq_iff_iff];simp;omega
  have x:((c.toNat:Int)==9)=(c.toNat==9):=by rw[Bool.eq_iff_iff];simp;omega
  have A:((c.toNat:Int)==10)=(c.toNat==10):=by rw[Bool.eq_iff_iff];simp;omega
  have G:((c.toNat:Int)==13)=(c.toNat==13):=by rw[Bool.eq_iff_iff];simp;omega
  cases i:c.toNat==32 with
  |true=>
   simp-implicitDefEqProofs(disch:=try exact ak)only[ju,iZ,lO,jJ,reduceAdd,reduceLeDiff,reduceIte,az,j,decide_true,o,p,i,jU];exact F (by simp only[h9,i,Bool.true_or])
  |false=>
   cases l:c.toNat==9 with
   |true=>
    simp-implicitDefEqProofs(disch:=try exact ak)only[ju,iZ,lO,jJ,reduceAdd,reduceLeDiff,reduceIte,az,j,decide_true,o,p,i,x,l,jU];exact F (by simp only[h9,l,Bool.true_or,Bool.or_true])
   |false=>
    cases n:c.toNat==10 with
    |true=>
     simp-implicitDefEqProofs(disch:=try exact ak)only[ju,iZ,lO,jJ,reduceAdd,reduceLeDiff,reduceIte,az,j,decide_true,o,p,i,x,l,A,n,jU];exact F (by simp only[h9,n,Bool.true_or,Bool.or_true])
    |false=>
     cases u:c.toNat==13 with
     |true=>
      simp-implicitDefEqProofs(disch:=try exact ak)only[ju,iZ,lO,jJ,reduceAdd,reduceLeDiff,reduceIte,az,j,decide_true,o,p,i,x,l,A,n,G,u,jU];exact F (by simp only[h9,u,Bool.or_true])
     |false=>
      have V:h9 c=false:=by simp only[h9,i,l,n,u,Bool.or_self]
      have O:IntKind.i64.wrap ((s.length:Int)-(at_:Int))=((s.length-at_:Nat):Int):=KT s.length at_ ae ae;have R:(c==47&&r.head?==D 47)=U->cV U (c::r)=0:=λz=>by rw[cV,V,aN,z,aN]
      by_cases K:(2:Int)<=((s.length-at_:Nat):Int)
      ·have E:=uR (s:=s) (a:=at_) (b:=at_+2) ae ae;rw[Nat.add_sub_cancel_left,h]at E;obtain⟨y,d,rfl⟩:∃y d,r=y::d:=by
        cases r with
        |nil=>simp at cq;omega
        |cons y d=>exact⟨y,d,rfl⟩
       simp only[List.take_succ_cons,List.take_zero]at E;cases w:(([c,y]:aC)==[47,47])with
       |true=>
        have T:c=47/\y=47:=by simpa using w
        obtain⟨rfl,rfl⟩:=T;simp-implicitDefEqProofs(disch:=try exact ak)only[ju,iZ,lO,jJ,reduceAdd,reduceLeDiff,reduceIte,az,j,decide_true,o,p,i,x,l,A,n,G,u,O,K,xA,E,w];refine Iq ar (ju (aI P aB) N m) N _ (47::47::d) at_ N h L (by simp only[List.length_cons]at cq ⊢;omega) (λk aa ab ag ad=> ?_);have ah:=aa 47 _ rfl aK;have hle:(s.drop (at_+k)).length<=q:=by
         simp only[List.length_drop,List.length_cons]at B cq ⊢;omega
        refine(yl (H:=H) ar N Q q (s.drop (at_+k)) (at_+k) m hle rfl ab (by simp only[List.length_drop,List.length_cons]at hm cq ⊢;omega)).mono ?_;rintro v H' ⟨rfl,e⟩;have M:cV U (47::47::d)=cV X (47::47::d):=by
         have aq:cV U (47::47::d)=cV X (47::d)+1:=rfl;have aH:cV X (47::47::d)=cV X (47::d)+1:=rfl;rw[aq,aH]
        refine⟨?_,e⟩;rw[M,<-ad,Nat.add_assoc]
       |false=>
        have z:(c==47&&(y::d).head?==D 47)=false:=by
         have:¬(c=47/\y=47):=by simpa using w
         simpa using this
        simp-implicitDefEqProofs(disch:=try exact ak)only[ju,iZ,lO,jJ,reduceAdd,reduceLeDiff,reduceIte,az,j,decide_true,o,p,i,x,l,A,n,G,u,O,K,xA,E,w];exact a_.2 ⟨by rw[R z,Nat.add_zero],rfl⟩
      ·have w:r=[]:=by
        cases r with
        |nil=>rfl
        |cons y d=>simp only[List.length_cons]at cq;omega
       have z:(c==47&&r.head?==D 47)=false:=by rw[w];simp
       simp-implicitDefEqProofs(disch:=try exact ak)only[ju,iZ,lO,jJ,reduceAdd,reduceLeDiff,reduceIte,az,j,decide_true,o,p,i,x,l,A,n,G,u,O,K,decide_false];exact a_.2 ⟨by rw[R z,Nat.add_zero],rfl⟩
def CI{H:af}{s:aC}(ar:s.length<=1000000000000000000){at_:Nat}(a:at_<=s.length):W (aI P aB 38 [Z s,I J at_] H) λv H'=>v= I J ((at_+cV U (s.drop at_):Nat):Int)/\H'=H:=by
 refine cO (λ_=>Ro (s.length+1)) ?_;rw[jJ];exact yl ar (s.length+1) ae s.length (s.drop at_) at_ (s.length+1) (by simp) rfl a (by simp;omega)
