/-
  Texts of one proof, laid together: ShA Ls Sp X1 Lx L1 L2.
-/
import Derived.Test.YtghmbpmaafnodaaDoorME
set_option linter.unusedVariables false
set_option linter.unusedSimpArgs false
set_option linter.defProp false
open Option renaming some→D,none→Z
open Bool renaming true→X,false→U
open Go.b9.aa renaming int→I,str→Y,bool→C
open Go.IntKind renaming i64→J
namespace Go.Proofs.YtghmbpmaafnodaaDoor
open Go.b9
open Nat (reduceAdd reduceLeDiff)
section
set_option maxRecDepth 100000
noncomputable section
def jb(G:ay)(N:Nat)(ag e i:aa)(H:ae):O:=bf P .len [9] [ag] H λh=>j (cj P 61 [(0,(I J 0)),(3,h)]) λk=>bS H (bV P (H).next 36 1 [(0,k)]) λl a=>aI a (cQ P a [36,36] i l) λm c=>a7 c (aV P c 29 e (.agg [I J 0,I J 0])) λd=>j (an P d 29 e) λr=>D (.tuple [m,r],d)
def Ky(G:ay)(N:Nat):∀ad H,bo P G N (ak (ak (ak (ak (ak (bs Tryd.f14)))))) (bh Tryd.f14) [] (bh Tryd.f14) ad H=jb G N (ad 0) (ad 3) (ad 4) H:=by
 refine bK (aH _) λad H=> ?_
 delta jb;kernel_rfl
def kf(a:aa->aa->aa->aa->ae->O)(ag d:aa)(e h:aa)(c:ae):O:=a ag d e h c
def kY(G:ay)(N:Nat)(n:aa->aa->aa->aa->ae->O)(ag d:aa)(m e:aa)(H:ae):O:=bf P .len [9] [ag] H λbz=>j (aq P .lss 3 U e bz) λp=>aW (D p) (aI H (G 39 [ag,e] H) λk o=>j (eg k 0) λq=>j (eg k 1) λl=>cg o [I J 0,Y [],I J 0,I J 0] λbp h=>a7 h (aV P h 61 bp q) λa=>j (aq P .eql 3 X l (I J 0)) λs=>aW (D s) (j (cj P 29 [(0,(I J 1)),(1,e)]) λu=>a7 a (aV P a 29 d u) λc=>j (an P c 29 d) λr=>D (.tuple [aa.ar,r],c)) (j (an P a 61 bp) λv=>bS a (bV P (a).next 36 1 [(0,v)]) λw c=>aI c (cQ P c [36,36] m w) λx i=>j (aq P .add 3 U e l) λy=>aI i (G 38 [ag,y] i) (kf n ag d x))) (jb G N ag d m H)
def lR(G:ay)(N:Nat):Nat->aa->aa->aa->aa->ae->O
 |0,_,_,_,_,_=>Z
 |n+1,ag,a,c,d,H=>kY G N (lR G N n) ag a c d H
def Kx(G:ay)(N:Nat)(c:aa->aa->aa->aa->ae->O):∀ad H,bo P G N (a6 (a6 (a6 (ak (ak (ak (ak (bs Tryd.f14)))))))) (λad H=>c (ad 0) (ad 3) (ad 4) (ad 5) H) [(0,(λad H=>jb G N (ad 0) (ad 3) (ad 4) H))] (bh Tryd.f14) ad H=kY G N c (ad 0) (ad 3) (ad 4) (ad 5) H:=by
 refine bK (aH _) λad H=> ?_
 delta kY kf;generalize jb G N=a;revert a;refine id ?_;intro a;kernel_rfl
def kg(G:ay)(N:Nat)(ag d c:aa)(a:ae):O:=lR G N N ag d aa.ar c a
def ke(G:ay)(N:Nat)(ag:aa)(H:ae):O:=cg H [I J 0,I J 0] λc a=>bf P .len [9] [ag] a λh=>j (aq P .gtr 3 X h (I J 6000)) λe=>aW (D e) (a7 a (aV P a 29 c (.agg [I J 4,I J 0])) λd=>j (an P d 29 c) λr=>D (.tuple [aa.ar,r],d)) (aI a (G 38 [ag,I J 0] a) (kg G N ag c))
def Js(N:Nat){ag:aa}{H:ae}{r:aa×ae}(h:ke (aC P az) N ag H=D r):aC P az 14 [ag] H=D r:=cO N (S:=λG=>ke G N ag H) Tryd.func14 (λG=>dN ((aP ah ((aP ah ((aP ah ((aP ah ((aP ah (Ky G N) ((dc ah ((ei (k:=λm ad H=>lR G N m (ad 0) (ad 3) (ad 4) (ad 5) H) ah (λad H=>ah) (λm=>Kx G N (lR G N m)))))))) (aH _))) (aH _))) (aH _))) (aH _))) (by delta ke kg;generalize lR G N N=a;revert a;refine id ?_;intro a;kernel_rfl)) h
def gZ(G:ay)(N:Nat)(av:aa)(H:ae):O:=some (av,H)
def KX(G:ay)(N:Nat):∀ad H,bo P G N (ak (ak (bs Tryd.f38))) (bh Tryd.f38) [] (bh Tryd.f38) ad H=gZ G N (ad 1) H:=by
 refine bK (aH _) λad H=> ?_
 delta gZ;kernel_rfl
def oT(G:ay)(N:Nat)(d:aa->aa->ae->O)(e:aa->aa->ae->O)(ag av:aa)(H:ae):O:=bf P .len [9] [ag] H λl=>j (aq P .lss 3 U av l) λa=>aQ a X H (ca ag) λm h=>aQ a X h (ca av) λn i=>aQ a X i (bA (eD P 9 m n)) λo k=>aQ a X k (bA (aq P .neq 5 X o (I .u8 10))) λp c=>j (cB a (D p) (D (C U))) λq=>aW (D q) (j (aq P .add 3 X av (I J 1)) λs=>e ag s c) (d ag av c)
def k4(G:ay)(N:Nat)(a:aa->aa->ae->O):Nat->aa->aa->ae->O
 |0,_,_,_=>Z
 |n+1,ag,av,H=>oT G N a (k4 G N a n) ag av H
def KW(G:ay)(N:Nat)(a:aa->aa->ae->O)(d:aa->aa->ae->O):∀ad H,bo P G N (a6 (a6 (a6 (ak (ak (ak (a6 (a6 (ak (a6 (a6 (a6 (ak (bs Tryd.f38)))))))))))))) (λad H=>d (ad 0) (ad 1) H) [(3,(λad H=>a (ad 0) (ad 1) H)),(2,(λad H=>a (ad 0) (ad 1) H)),(1,(λad H=>a (ad 0) (ad 1) H)),(0,(λad H=>gZ G N (ad 1) H))] (bh Tryd.f38) ad H=oT G N a d (ad 0) (ad 1) H:=by
 refine bK (aH _) λad H=> ?_
 delta oT;generalize a=c;revert c;refine id ?_;intro c;kernel_rfl
def jM(G:ay)(N:Nat)(i:aa->aa->ae->O)(ag av:aa)(H:ae):O:=bf P .len [9] [ag] H λaw=>j (aq P .lss 3 U av aw) λax=>aW (D ax) (j (eD P 9 ag av) λF=>j (aq P .eql 5 X F (I .u8 32)) λc=>aQ c U H (ca ag) λbz l=>aQ c U l (ca av) λK v=>aQ c U v (bA (eD P 9 bz K)) λL w=>aQ c U w (bA (aq P .eql 5 X L (I .u8 9))) λM x=>j (cB c (D (C X)) (D M)) λd=>aQ d U x (ca ag) λQ y=>aQ d U y (ca av) λR z=>aQ d U z (bA (eD P 9 Q R)) λS A=>aQ d U A (bA (aq P .eql 5 X S (I .u8 10))) λT B=>j (cB d (D (C X)) (D T)) λe=>aQ e U B (ca ag) λV E=>aQ e U E (ca av) λW m=>aQ e U m (bA (eD P 9 V W)) λab n=>aQ e U n (bA (aq P .eql 5 X ab (I .u8 13))) λad h=>j (cB e (D (C X)) (D ad)) λaf=>aW (D af) (j (aq P .add 3 X av (I J 1)) λah=>i ag ah h) (bf P .len [9] [ag] h λai=>j (aq P .sub 3 U ai av) λaj=>j (aq P .geq 3 X aj (I J 2)) λa=>aQ a X h (ca ag) λak o=>aQ a X o (ca av) λal p=>aQ a X p (ca av) λam q=>aQ a X q (bA (aq P .add 3 X am (I J 2))) λan s=>aQ a X s (bA (ju P 9 ak (D al) (D an) Z)) λao u=>aQ a X u (bA (aq P .eql 9 X ao (Y [47,47]))) λap k=>j (cB a (D ap) (D (C U))) λau=>aW (D au) (k4 G N i N ag av k) (D (av,k)))) (gZ G N av H)
def hx(G:ay)(N:Nat):Nat->aa->aa->ae->O
 |0,_,_,_=>Z
 |n+1,ag,av,H=>jM G N (hx G N n) ag av H
def KV(G:ay)(N:Nat)(a:aa->aa->ae->O):∀ad H,bo P G N (a6 (a6 (a6 (ak (bs Tryd.f38))))) (λad H=>a (ad 0) (ad 1) H) [(0,(λad H=>gZ G N (ad 1) H))] (bh Tryd.f38) ad H=jM G N a (ad 0) (ad 1) H:=by
 refine bK ((aP ah ((dc ah ((dc ah ((aP ah ((dt ah (aH _) ((aP ah ((dt ah ((dc ah ((ei (k:=λm ad H=>k4 G N a m (ad 0) (ad 1) H) ah (λad H=>ah) (λm=>KW G N a (k4 G N a m)))))) (aH _))) (aH _))))) (aH _))))))) (aH _))) λad H=> ?_
 delta jM;generalize gZ G N=c;generalize k4 G N a N=d;revert c d;refine id ?_;intro c d;kernel_rfl
def hO(G:ay)(N:Nat)(ag av:aa)(H:ae):O:=hx G N N ag av H
def JI(N:Nat){ag av:aa}{H:ae}{r:aa×ae}(h:hO (aC P az) N ag av H=D r):aC P az 38 [ag,av] H=D r:=cO N (S:=λG=>hO G N ag av H) Tryd.func38 (λG=>dN ((aP ah ((aP ah (KX G N) ((dc ah ((ei (k:=λm ad H=>hx G N m (ad 0) (ad 1) H) ah (λad H=>ah) (λm=>KV G N (hx G N m)))))))) (aH _))) (by delta hO;generalize hx G N N=a;revert a;refine id ?_;intro a;kernel_rfl)) h
def eQ(G:ay)(ag av:aa)(H:ae):O:=cg H [I J 0,Y [],I J 0,I J 0] λc y=>j (eD P 9 ag av) λal=>aI y (G 62 [al] y) λbz p=>aW (D bz) (aI p (G 63 [ag,av,C U] p) λw h=>j (aq P .add 3 U av w) λam=>j (ju P 9 ag (D av) (D am) Z) λu=>aI h (G 64 [u] h) λao d=>aW (D ao) (j (cj P 61 [(0,(I J 3)),(1,u),(3,av)]) λap=>a7 d (aV P d 61 c ap) λa=>j (an P a 61 c) λr=>D (.tuple [r,w],a)) (aI d (G 65 [u] d) λau a=>aW (D au) (j (cj P 61 [(0,(I J 1)),(1,u),(3,av)]) λaw=>a7 a (aV P a 61 c aw) λi=>j (an P i 61 c) λr=>D (.tuple [r,w],i)) (a7 a (aV P a 61 c (.agg [I J 0,Y [],I J 0,I J 0])) λi=>j (an P i 61 c) λr=>D (.tuple [r,I J 0],i)))) (j (eD P 9 ag av) λax=>aI p (G 66 [ax] p) λaz h=>aW (D az) (aI h (G 63 [ag,av,C X] h) λm d=>j (aq P .add 3 U av m) λaB=>j (ju P 9 ag (D av) (D aB) Z) λaC=>aI d (G 67 [aC] d) λA a=>j (eg A 0) λaD=>j (eg A 1) λaE=>j (e2 .not aE) λn=>aQ n U a (ca m) λaF i=>aQ n U i (bA (aq P .gtr 3 X aF (I J 1))) λaG ah=>aQ n U ah (ca aG) λo ai=>aQ o X ai (ca ag) λaH aj=>aQ o X aj (ca av) λaJ E=>aQ o X E (bA (eD P 9 aH aJ)) λaK F=>aQ o X F (bA (aq P .eql 5 X aK (I .u8 48))) λaL K=>aQ n U K (bA (cB o (D aL) (D (C U)))) λaM L=>j (cB n (D (C X)) (D aM)) λe=>aQ e U L (ca av) λaN M=>aQ e U M (ca m) λaO N=>aQ e U N (bA (aq P .add 3 U aN aO)) λaP Q=>aQ e U Q (ca ag) λB z=>aQ e U z (λq=>gg (b2 P .empty .len [9] [B]) (b2 P z .len [9] [B]) q) λaR R=>aQ e U R (bA (aq P .lss 3 U aP aR)) λaS S=>aQ e U S (ca aS) λk T=>aQ k X T (ca ag) λaT V=>aQ k X V (ca av) λaU W=>aQ k X W (ca m) λaX ab=>aQ k X ab (bA (aq P .add 3 U aU aX)) λaY ad=>aQ k X ad (bA (eD P 9 aT aY)) λaZ v=>aQ k X v (λq=>eJ v (G 62 [aZ] v) q) λa0 af=>aQ e U af (bA (cB k (D a0) (D (C U)))) λa1 s=>j (cB e (D (C X)) (D a1)) λa2=>aW (D a2) (a7 s (aV P s 61 c (.agg [I J 0,Y [],I J 0,I J 0])) λl=>j (an P l 61 c) λr=>D (.tuple [r,I J 0],l)) (j (cj P 61 [(0,(I J 2)),(2,aD),(3,av)]) λa3=>a7 s (aV P s 61 c a3) λl=>j (an P l 61 c) λr=>D (.tuple [r,m],l))) (aI h (G 68 [ag,av] h) λx d=>j (aq P .eql 9 X x (Y [])) λa4=>aW (D a4) (a7 d (aV P d 61 c (.agg [I J 0,Y [],I J 0,I J 0])) λa=>j (an P a 61 c) λr=>D (.tuple [r,I J 0],a)) (j (cj P 61 [(0,(I J 4)),(1,x),(3,av)]) λa5=>bf P .len [9] [x] d λak=>a7 d (aV P d 61 c a5) λa=>j (an P a 61 c) λr=>D (.tuple [r,ak],a))))
def JJ(N:Nat){ag av:aa}{H:ae}{r:aa×ae}(h:eQ (aC P az) ag av H=D r):aC P az 39 [ag,av] H=D r:=cO N (S:=λG=>eQ G ag av H) Tryd.func39 (λ_=>by delta eQ;kernel_rfl) h
def sJ(G:ay)(ag:aa)(H:ae):O:=j (aq P .geq 5 X ag (I .u8 97)) λd=>aQ d X H (ca ag) λbp e=>aQ d X e (bA (aq P .leq 5 X bp (I .u8 122))) λw h=>j (cB d (D w) (D (C U))) λa=>aQ a U h (ca ag) λp i=>aQ a U i (bA (aq P .geq 5 X p (I .u8 65))) λq k=>aQ a U k (ca q) λc l=>aQ c X l (ca ag) λs m=>aQ c X m (bA (aq P .leq 5 X s (I .u8 90))) λu n=>aQ a U n (bA (cB c (D u) (D (C U)))) λv o=>j (cB a (D (C X)) (D v)) λbz=>D (bz,o)
def JZ(N:Nat){ag:aa}{H:ae}{r:aa×ae}(h:sJ (aC P az) ag H=D r):aC P az 62 [ag] H=D r:=cO N (S:=λG=>sJ G ag H) Tryd.func62 (λ_=>by delta sJ;kernel_rfl) h
def jc(G:ay)(N:Nat)(a:aa)(H:ae):O:=some (a,H)
def Lr(G:ay)(N:Nat):∀ad H,bo P G N (ak (ak (ak (bs Tryd.f63)))) (bh Tryd.f63) [] (bh Tryd.f63) ad H=jc G N (ad 7) H:=by
 refine bK (aH _) λad H=> ?_
 delta jc;kernel_rfl
def kn(G:ay)(N:Nat)(m:aa->aa->aa->aa->ae->O)(ag av:aa)(l e:aa)(H:ae):O:=j (aq P .add 3 U av e) λL=>bf P .len [9] [ag] H λM=>j (aq P .lss 3 U L M) λa=>aQ a X H (ca ag) λQ n=>aQ a X n (ca av) λbz y=>aQ a X y (ca e) λR z=>aQ a X z (bA (aq P .add 3 U bz R)) λS A=>aQ a X A (bA (eD P 9 Q S)) λT i=>aQ a X i (λq=>eJ i (G 66 [T] i) q) λV B=>aQ a X B (ca V) λd E=>aQ d U E (ca l) λW F=>aQ d U F (bA (e2 .not W)) λab K=>aQ d U K (ca ab) λc o=>aQ c X o (ca ag) λad p=>aQ c X p (ca av) λaf s=>aQ c X s (ca e) λah u=>aQ c X u (bA (aq P .add 3 U af ah)) λai v=>aQ c X v (bA (eD P 9 ad ai)) λaj h=>aQ c X h (λq=>eJ h (G 62 [aj] h) q) λak w=>aQ d U w (bA (cB c (D ak) (D (C U)))) λal x=>aQ a X x (bA (cB d (D (C X)) (D al))) λam k=>j (cB a (D am) (D (C U))) λan=>aW (D an) (j (aq P .add 3 X e (I J 1)) λao=>m ag av l ao k) (jc G N e k)
def k7(G:ay)(N:Nat):Nat->aa->aa->aa->aa->ae->O
 |0,_,_,_,_,_=>Z
 |n+1,ag,av,a,c,H=>kn G N (k7 G N n) ag av a c H
def Lq(G:ay)(N:Nat)(c:aa->aa->aa->aa->ae->O):∀ad H,bo P G N (a6 (a6 (a6 (ak (ak (bs Tryd.f63)))))) (λad H=>c (ad 0) (ad 1) (ad 2) (ad 7) H) [(0,(λad H=>jc G N (ad 7) H))] (bh Tryd.f63) ad H=kn G N c (ad 0) (ad 1) (ad 2) (ad 7) H:=by
 refine bK (aH _) λad H=> ?_
 delta kn;generalize jc G N=a;revert a;refine id ?_;intro a;kernel_rfl
def jN(G:ay)(N:Nat)(ag av a:aa)(H:ae):O:=k7 G N N ag av a (I J 0) H
def J0(N:Nat){ag av a:aa}{H:ae}{r:aa×ae}(h:jN (aC P az) N ag av a H=D r):aC P az 63 [ag,av,a] H=D r:=cO N (S:=λG=>jN G N ag av a H) Tryd.func63 (λG=>dN ((aP ah ((aP ah ((aP ah (Lr G N) ((dc ah ((ei (k:=λm ad H=>k7 G N m (ad 0) (ad 1) (ad 2) (ad 7) H) ah (λad H=>ah) (λm=>Lq G N (k7 G N m)))))))) (aH _))) (aH _))) (by delta jN;generalize k7 G N N=c;revert c;refine id ?_;intro c;kernel_rfl)) h
def k8(G:ay)(N:Nat)(H:ae):O:=some ((C U),H)
def Lt(G:ay)(N:Nat):∀ad H,bo P G N (ak (ak (ak (bs Tryd.f64)))) (bh Tryd.f64) [] (bh Tryd.f64) ad H=k8 G N H:=by
 refine bK (aH _) λad H=> ?_
 delta k8;kernel_rfl
def nw(G:ay)(N:Nat)(d:aa->aa->aa->ae->O)(ag a c:aa)(H:ae):O:=bf P .len [50] [a] H λl=>j (aq P .lss 3 U c l) λm=>aW (D m) (j (cc P 50 a c) λh=>j (an P H 9 h) λi=>j (aq P .eql 9 U i ag) λk=>aW (D k) (D ((C X),H)) (j (aq P .add 3 X c (I J 1)) λe=>d ag a e H)) (k8 G N H)
def l4(G:ay)(N:Nat):Nat->aa->aa->aa->ae->O
 |0,_,_,_,_=>Z
 |n+1,ag,a,c,H=>nw G N (l4 G N n) ag a c H
def Ls(G:ay)(N:Nat)(c:aa->aa->aa->ae->O):∀ad H,bo P G N (a6 (a6 (ak (a6 (ak (ak (bs Tryd.f64))))))) (λad H=>c (ad 0) (ad 3) (ad 4) H) [(0,(λad H=>k8 G N H))] (bh Tryd.f64) ad H=nw G N c (ad 0) (ad 3) (ad 4) H:=by
 refine bK (aH _) λad H=> ?_
 delta nw;generalize k8 G N=a;revert a;refine id ?_;intro a;kernel_rfl
def nv(G:ay)(N:Nat)(ag c:aa)(a:ae):O:=l4 G N N ag c (I J 0) a
def l3(G:ay)(N:Nat)(ag:aa)(H:ae):O:=aI H (G 81 [] H) (nv G N ag)
def J1(N:Nat){ag:aa}{H:ae}{r:aa×ae}(h:l3 (aC P az) N ag H=D r):aC P az 64 [ag] H=D r:=cO N (S:=λG=>l3 G N ag H) Tryd.func64 (λG=>dN ((aP ah ((aP ah ((aP ah (Lt G N) ((aP ah ((dc ah ((ei (k:=λm ad H=>l4 G N m (ad 0) (ad 3) (ad 4) H) ah (λad H=>ah) (λm=>Ls G N (l4 G N m)))))) (aH _))))) (aH _))) (aH _))) (by delta l3 nv;generalize l4 G N N=a;revert a;refine id ?_;intro a;kernel_rfl)) h
def gL(G:ay)(N:Nat)(H:ae):O:=some ((C X),H)
def Lv(G:ay)(N:Nat):∀ad H,bo P G N (ak (ak (ak (bs Tryd.f65)))) (bh Tryd.f65) [] (bh Tryd.f65) ad H=gL G N H:=by
 refine bK (aH _) λad H=> ?_
 delta gL;kernel_rfl
def hT(G:ay)(N:Nat)(h:aa->aa->ae->O)(ag c:aa)(H:ae):O:=bf P .len [9] [ag] H λn=>j (aq P .lss 3 U c n) λo=>aW (D o) (j (eD P 9 ag c) λs=>aI H (G 62 [s] H) λu i=>j (e2 .not u) λa=>aQ a X i (ca ag) λv k=>aQ a X k (ca c) λw l=>aQ a X l (bA (eD P 9 v w)) λx d=>aQ a X d (λq=>eJ d (G 66 [x] d) q) λy m=>aQ a X m (bA (e2 .not y)) λz e=>j (cB a (D z) (D (C U))) λA=>aW (D A) (D ((C U),e)) (j (aq P .add 3 X c (I J 1)) λp=>h ag p e)) (gL G N H)
def l5(G:ay)(N:Nat):Nat->aa->aa->ae->O
 |0,_,_,_=>Z
 |n+1,ag,a,H=>hT G N (l5 G N n) ag a H
def Lu(G:ay)(N:Nat)(c:aa->aa->ae->O):∀ad H,bo P G N (a6 (a6 (ak (a6 (ak (ak (bs Tryd.f65))))))) (λad H=>c (ad 0) (ad 3) H) [(0,(λad H=>gL G N H))] (bh Tryd.f65) ad H=hT G N c (ad 0) (ad 3) H:=by
 refine bK (aH _) λad H=> ?_
 delta hT;generalize gL G N=a;revert a;refine id ?_;intro a;kernel_rfl
def hy(G:ay)(N:Nat)(ag:aa)(H:ae):O:=bf P .len [9] [ag] H λA=>j (aq P .lss 3 X A (I J 1)) λbp=>aQ bp U H (ca ag) λk h=>aQ bp U h (λq=>gg (b2 P .empty .len [9] [k]) (b2 P h .len [9] [k]) q) λB l=>aQ bp U l (bA (aq P .gtr 3 X B (I J 8))) λs m=>j (cB bp (D (C X)) (D s)) λa=>aQ a U m (ca ag) λu n=>aQ a U n (bA (eD P 9 u (I J 0))) λv c=>aQ a U c (λq=>eJ c (G 62 [v] c) q) λw o=>aQ a U o (bA (e2 .not w)) λbz p=>j (cB a (D (C X)) (D bz)) λe=>aQ e U p (ca ag) λx d=>aQ e U d (λq=>eJ d (G 64 [x] d) q) λy i=>j (cB e (D (C X)) (D y)) λz=>aW (D z) (D ((C U),i)) (l5 G N N ag (I J 0) i)
def J2(N:Nat){ag:aa}{H:ae}{r:aa×ae}(h:hy (aC P az) N ag H=D r):aC P az 65 [ag] H=D r:=cO N (S:=λG=>hy G N ag H) Tryd.func65 (λG=>dN ((aP ah ((aP ah ((aP ah (Lv G N) ((aP ah ((dc ah ((ei (k:=λm ad H=>l5 G N m (ad 0) (ad 3) H) ah (λad H=>ah) (λm=>Lu G N (l5 G N m)))))) (aH _))))) (aH _))) (aH _))) (by delta hy;generalize l5 G N N=a;revert a;refine id ?_;intro a;kernel_rfl)) h
def sK(G:ay)(ag:aa)(H:ae):O:=j (aq P .geq 5 X ag (I .u8 48)) λa=>aQ a X H (ca ag) λbp c=>aQ a X c (bA (aq P .leq 5 X bp (I .u8 57))) λe d=>j (cB a (D e) (D (C U))) λh=>D (h,d)
def J3(N:Nat){ag:aa}{H:ae}{r:aa×ae}(h:sK (aC P az) ag H=D r):aC P az 66 [ag] H=D r:=cO N (S:=λG=>sK G ag H) Tryd.func66 (λ_=>by delta sK;kernel_rfl) h
def l6(G:ay)(N:Nat)(a:aa)(H:ae):O:=some (.tuple [a,C X],H)
def Lx(G:ay)(N:Nat):∀ad H,bo P G N (ak (ak (ak (bs Tryd.f67)))) (bh Tryd.f67) [] (bh Tryd.f67) ad H=l6 G N (ad 4) H:=by
 refine bK (aH _) λad H=> ?_
 delta l6;kernel_rfl
def o3(G:ay)(N:Nat)(e:aa->aa->aa->ae->O)(ag a c:aa)(H:ae):O:=bf P .len [9] [ag] H λq=>j (aq P .lss 3 U c q) λh=>aW (D h) (j (eD P 9 ag c) λk=>j (aq P .sub 5 X k (I .u8 48)) λbz=>pk P 5 3 bz H λd=>j (aq P .sub 3 X (I J 9223372036854775807) d) λl=>j (aq P .quo 3 X l (I J 10)) λm=>j (aq P .gtr 3 U a m) λn=>aW (D n) (D (.tuple [I J 0,C U],H)) (j (aq P .mul 3 X (I J 10) a) λo=>j (aq P .add 3 U o d) λp=>j (aq P .add 3 X c (I J 1)) λi=>e ag p i H)) (l6 G N a H)
def k9(G:ay)(N:Nat):Nat->aa->aa->aa->ae->O
 |0,_,_,_,_=>Z
 |n+1,ag,a,c,H=>o3 G N (k9 G N n) ag a c H
def Lw(G:ay)(N:Nat)(c:aa->aa->aa->ae->O):∀ad H,bo P G N (a6 (a6 (ak (a6 (ak (ak (bs Tryd.f67))))))) (λad H=>c (ad 0) (ad 4) (ad 5) H) [(0,(λad H=>l6 G N (ad 4) H))] (bh Tryd.f67) ad H=o3 G N c (ad 0) (ad 4) (ad 5) H:=by
 refine bK (aH _) λad H=> ?_
 delta o3;generalize l6 G N=a;revert a;refine id ?_;intro a;kernel_rfl
def nx(G:ay)(N:Nat)(ag:aa)(H:ae):O:=k9 G N N ag (I J 0) (I J 0) H
def J4(N:Nat){ag:aa}{H:ae}{r:aa×ae}(h:nx (aC P az) N ag H=D r):aC P az 67 [ag] H=D r:=cO N (S:=λG=>nx G N ag H) Tryd.func67 (λG=>dN ((aP ah ((aP ah ((aP ah (Lx G N) ((aP ah ((dc ah ((ei (k:=λm ad H=>k9 G N m (ad 0) (ad 4) (ad 5) H) ah (λad H=>ah) (λm=>Lw G N (k9 G N m)))))) (aH _))))) (aH _))) (aH _))) (by delta nx;generalize k9 G N N=a;revert a;refine id ?_;intro a;kernel_rfl)) h
def jd(G:ay)(N:Nat)(H:ae):O:=some ((Y []),H)
def LB(G:ay)(N:Nat):∀ad H,bo P G N (ak (ak (ak (ak (ak (bs Tryd.f68)))))) (bh Tryd.f68) [] (bh Tryd.f68) ad H=jd G N H:=by
 refine bK (aH _) λad H=> ?_
 delta jd;kernel_rfl
def o4(G:ay)(N:Nat)(d:aa->aa->aa->aa->ae->O)(ag av:aa)(c a:aa)(H:ae):O:=bf P .len [9] [c] H λe=>j (aq P .lss 3 U a e) λh=>aW (D h) (j (eD P 9 ag av) λk=>j (eD P 9 c a) λl=>j (aq P .eql 5 U k l) λm=>aW (D m) (j (aq P .add 3 X a (I J 1)) λn=>j (ju P 9 c (D a) (D n) Z) λo=>D (o,H)) (j (aq P .add 3 X a (I J 1)) λi=>d ag av c i H)) (jd G N H)
def k_(G:ay)(N:Nat):Nat->aa->aa->aa->aa->ae->O
 |0,_,_,_,_,_=>Z
 |n+1,ag,av,a,c,H=>o4 G N (k_ G N n) ag av a c H
def Ly(G:ay)(N:Nat)(c:aa->aa->aa->aa->ae->O):∀ad H,bo P G N (a6 (a6 (ak (a6 (ak (ak (ak (ak (bs Tryd.f68))))))))) (λad H=>c (ad 0) (ad 1) (ad 7) (ad 8) H) [(2,(λad H=>jd G N H))] (bh Tryd.f68) ad H=o4 G N c (ad 0) (ad 1) (ad 7) (ad 8) H:=by
 refine bK (aH _) λad H=> ?_
 delta o4;generalize jd G N=a;revert a;refine id ?_;intro a;kernel_rfl
def kq(G:ay)(N:Nat)(ag av:aa)(H:ae):O:=k_ G N N ag av (Y [123,125,40,41,91,93,59,58,44,46,61,43,45,42,47,37,60,33]) (I J 0) H
def LA(G:ay)(N:Nat):∀ad H,bo P G N (ak (ak (ak (bs Tryd.f68)))) (bh Tryd.f68) [] (bh Tryd.f68) ad H=kq G N (ad 0) (ad 1) H:=by
 refine bK ((aP ah ((aP ah (LB G N) ((aP ah ((dc ah ((ei (k:=λm ad H=>k_ G N m (ad 0) (ad 1) (ad 7) (ad 8) H) ah (λad H=>ah) (λm=>Ly G N (k_ G N m)))))) (aH _))))) (aH _))) λad H=> ?_
 delta kq;generalize k_ G N N=a;revert a;refine id ?_;intro a;kernel_rfl
def kp(G:ay)(N:Nat)(h:aa->aa->aa->aa->ae->O)(ag av:aa)(c bp:aa)(H:ae):O:=bf P .len [50] [c] H λs=>j (aq P .lss 3 U bp s) λu=>aW (D u) (bf P .len [9] [ag] H λw=>j (aq P .sub 3 U w av) λx=>j (aq P .geq 3 X x (I J 2)) λa=>aQ a X H (ca ag) λy i=>aQ a X i (ca av) λz k=>aQ a X k (ca av) λA l=>aQ a X l (bA (aq P .add 3 X A (I J 2))) λB m=>aQ a X m (bA (ju P 9 y (D z) (D B) Z)) λE n=>aQ a X n (ca c) λF o=>aQ a X o (ca bp) λK p=>aQ a X p (bA (cc P 50 F K)) λL e=>aQ a X e (qr (an P e 9 L)) λM q=>aQ a X q (bA (aq P .eql 9 U E M)) λQ d=>j (cB a (D Q) (D (C U))) λR=>aW (D R) (j (cc P 50 c bp) λS=>j (an P d 9 S) λT=>D (T,d)) (j (aq P .add 3 X bp (I J 1)) λv=>h ag av c v d)) (kq G N ag av H)
def kr(G:ay)(N:Nat):Nat->aa->aa->aa->aa->ae->O
 |0,_,_,_,_,_=>Z
 |n+1,ag,av,a,bp,H=>kp G N (kr G N n) ag av a bp H
def Lz(G:ay)(N:Nat)(c:aa->aa->aa->aa->ae->O):∀ad H,bo P G N (a6 (a6 (ak (a6 (ak (ak (bs Tryd.f68))))))) (λad H=>c (ad 0) (ad 1) (ad 5) (ad 6) H) [(0,(λad H=>kq G N (ad 0) (ad 1) H))] (bh Tryd.f68) ad H=kp G N c (ad 0) (ad 1) (ad 5) (ad 6) H:=by
 refine bK (aH _) λad H=> ?_
 delta kp;generalize kq G N=a;revert a;refine id ?_;intro a;kernel_rfl
def ko(G:ay)(N:Nat)(ag av c:aa)(a:ae):O:=kr G N N ag av c (I J 0) a
def jO(G:ay)(N:Nat)(ag av:aa)(H:ae):O:=bS H (D (.aA (H).next 0 5 1 (D 5),.row U 1 [[Y [60,61]],[Y [61,61]],[Y [33,61]],[Y [38,38]],[Y [124,124]]])) (ko G N ag av)
def J5(N:Nat){ag av:aa}{H:ae}{r:aa×ae}(h:jO (aC P az) N ag av H=D r):aC P az 68 [ag,av] H=D r:=cO N (S:=λG=>jO G N ag av H) Tryd.func68 (λG=>dN ((aP ah ((aP ah ((aP ah (LA G N) ((aP ah ((dc ah ((ei (k:=λm ad H=>kr G N m (ad 0) (ad 1) (ad 5) (ad 6) H) ah (λad H=>ah) (λm=>Lz G N (kr G N m)))))) (aH _))))) (aH _))) (aH _))) (by delta jO ko;generalize kr G N N=a;revert a;refine id ?_;intro a;kernel_rfl)) h
def vM(av:aa)(a:ae):O:=some (av,a)
def sN(G:ay)(H:ae):O:=bS H (D (.aA (H).next 0 18 1 (D 18),.row U 1 [[Y [114,101,99,111,114,100]],[Y [103,108,111,98,97,108]],[Y [102,117,110,99]],[Y [118,97,114]],[Y [108,101,116]],[Y [105,102]],[Y [101,108,115,101]],[Y [119,104,105,108,101]],[Y [114,101,116,117,114,110]],[Y [112,114,105,110,116]],[Y [110,117,108,108]],[Y [110,101,119]],[Y [108,101,110]],[Y [114,101,97,100]],[Y [116,114,117,101]],[Y [102,97,108,115,101]],[Y [105,110,116]],[Y [98,111,111,108]]])) (vM)
def Ka(N:Nat){H:ae}{r:aa×ae}(h:sN (aC P az) H=D r):aC P az 81 [] H=D r:=cO N (S:=λG=>sN G H) Tryd.func81 (λ_=>by delta sN vM;kernel_rfl) h
end
end
section
set_option linter.defProp false
def BW:=aj @ae.bT @ae.dj
def FB:=aj (aj (aj (aj (aj (aj (aj (aj @E4 @E0) (aj @Cr @Cs)) (aj (aj @Cw @ET) (aj @s8 (aj @dG @xb)))) (aj (aj (aj @ek @s6) (aj @EZ (aj @EV @EY))) (aj (aj @EW @EX) (aj @EU (aj @Ci @Ch))))) (aj (aj (aj (aj @xm @wQ) (aj @wR (aj @wS @wL))) (aj (aj @wM @wN) (aj @wO (aj @wJ @wP)))) (aj (aj (aj @wK @Option.bind_some.{0,0}) (aj @aY (aj @aT @w8))) (aj (aj @CA @CC) (aj @Cz (aj @kS @vu)))))) (aj (aj (aj (aj (aj @CB @List.getElem?_cons_zero.{0}) (aj @List.getElem?_cons_succ.{0} @List.drop_zero.{0})) (aj (aj @List.drop_succ_cons.{0} @List.take_succ_cons.{0}) (aj @List.take_zero.{0} (aj @List.set_cons_zero.{0} @List.set_cons_succ.{0})))) (aj (aj (aj @List.cons_append.{0} @List.nil_append.{0}) (aj @List.length_cons.{0} (aj @List.length_nil.{0} @List.all_cons.{0}))) (aj (aj @List.all_nil.{0} @Bool.and_true) (aj @Bool.and_self (aj @Nat.zero_add @Nat.add_zero))))) (aj (aj (aj (aj @bk @and_self) (aj @and_true (aj @true_and @if_true.{1}))) (aj (aj @aU @gH) (aj @hq (aj @qn @vf)))) (aj (aj (aj @rZ @ve) (aj @vd (aj @DJ @DL))) (aj (aj @DQ @D0) (aj @DK (aj @DH @DI))))))) (aj (aj (aj (aj (aj (aj @DM @DN) (aj @DO @DP)) (aj (aj @qX @qY) (aj @vZ (aj @vY @DR)))) (aj (aj (aj @DA @DB) (aj @DC (aj @DD @DF))) (aj (aj @DG @DS) (aj @DU (aj @DT @DV))))) (aj (aj (aj (aj @DW @DX) (aj @DY (aj @DZ @Eg))) (aj (aj @Ek @Em) (aj @sU (aj @pb @sV)))) (aj (aj (aj @Ee @wi) (aj @wk (aj @wj @Ep))) (aj (aj @Er @Es) (aj @Et (aj @Eu @Eh)))))) (aj (aj (aj (aj (aj @Ej @nJ) (aj @wm @Ei)) (aj (aj @Ef @El) (aj @En (aj @Eo @qZ)))) (aj (aj (aj @D_ @Ea) (aj @Eb (aj @Ec @Ed))) (aj (aj @zf @zo) (aj @zg (aj @zl @zk))))) (aj (aj (aj (aj @zj @zi) (aj @zh (aj @zm @zn))) (aj (aj @yh @BQ) (aj @ae.rC (aj @ae.dp @ae.get_set_same)))) (aj (aj (aj @ae.get_set_other @ae.bT) (aj @ae.dj (aj @ae.Cn @ae.set_set))) (aj (aj @xM @xN) (aj @xv (aj @xr @xt)))))))) (aj (aj (aj (aj (aj (aj (aj @xR @xI) (aj @xJ @xK)) (aj (aj @xL @xO) (aj @xS (aj @xT @xU)))) (aj (aj (aj @xP @xQ) (aj @xF (aj @xG @xw))) (aj (aj @xq @xz) (aj @xA (aj @xx @xE))))) (aj (aj (aj (aj @xH @xB) (aj @xu (aj @xC @xD))) (aj (aj @yC @yD) (aj @yE (aj @yF @yG)))) (aj (aj (aj @yH @yI) (aj @yJ (aj @yK @yL))) (aj (aj @yM @yN) (aj @yO (aj @yP @yQ)))))) (aj (aj (aj (aj (aj @yR @yS) (aj @yT @n9)) (aj (aj @n_ @yU) (aj @yV (aj @yW @yX)))) (aj (aj (aj @yY @yZ) (aj @y0 (aj @y1 @y2))) (aj (aj @y3 @y4) (aj @y5 (aj @y6 @y7))))) (aj (aj (aj (aj @y8 @y9) (aj @y_ (aj @za @zb))) (aj (aj @zc @zd) (aj @yt (aj @yu @yv)))) (aj (aj (aj @yw @yx) (aj @yy (aj @yA @yB))) (aj (aj @zE @zF) (aj @zG (aj @zH @zI))))))) (aj (aj (aj (aj (aj (aj @zJ @zK) (aj @zL @zM)) (aj (aj @zN @zO) (aj @zP (aj @zQ @zR)))) (aj (aj (aj @zS @zT) (aj @zU (aj @zV @zW))) (aj (aj @zX @zY) (aj @zZ (aj @z1 @z6))))) (aj (aj (aj (aj @z7 @z8) (aj @z_ (aj @Aa @Ab))) (aj (aj @Ac @Ad) (aj @Ae (aj @Af @Ag)))) (aj (aj (aj @Ah @Ai) (aj @Aj (aj @Ak @Al))) (aj (aj @Am @An) (aj @zt (aj @zu @zv)))))) (aj (aj (aj (aj (aj @zw @zx) (aj @zy @zz)) (aj (aj @zB @Bv) (aj @qd (aj @rO @qe)))) (aj (aj (aj @rP @qf) (aj @rQ (aj @rR @u1))) (aj (aj @lJ @qg) (aj @Bp (aj @Bq @Br))))) (aj (aj (aj (aj @Bs @rS) (aj @u2 (aj @Bt @Bu))) (aj (aj @Bl @Bm) (aj @Bn (aj @Bo @Az)))) (aj (aj (aj @AA @AD) (aj @uC (aj @AE @uD))) (aj (aj @uE @AF) (aj @AG (aj @uA @uB))))))))
def br:=aj (aj (aj (aj (aj @E4 @E0) (aj @Cr (aj @Cs @Cw))) (aj (aj @ET @s8) (aj @dG (aj @xb @ek)))) (aj (aj (aj @s6 @EZ) (aj @EV (aj @EY @EW))) (aj (aj @EX @EU) (aj @Ci (aj @Ch @xm))))) (aj (aj (aj (aj @wQ @wR) (aj @wS (aj @wL @wM))) (aj (aj @wN @wO) (aj @wJ (aj @wP @wK)))) (aj (aj (aj @Option.bind_some.{0,0} @aY) (aj @aT (aj @w8 @CA))) (aj (aj @CC @Cz) (aj @kS (aj @vu @CB)))))
def dA:=aj (aj (aj (aj @List.getElem?_cons_zero.{0} (aj @List.getElem?_cons_succ.{0} @List.drop_zero.{0})) (aj (aj @List.drop_succ_cons.{0} @List.take_succ_cons.{0}) (aj @List.take_zero.{0} @List.set_cons_zero.{0}))) (aj (aj (aj @List.set_cons_succ.{0} @List.cons_append.{0}) (aj @List.nil_append.{0} @List.length_cons.{0})) (aj (aj @List.length_nil.{0} @List.all_cons.{0}) (aj @List.all_nil.{0} @Bool.and_true)))) (aj (aj (aj (aj @Bool.and_self @Nat.zero_add) (aj @Nat.add_zero @bk)) (aj (aj @and_self @and_true) (aj @true_and @if_true.{1}))) (aj (aj (aj @aU @gH) (aj @hq @qn)) (aj (aj @vf @rZ) (aj @ve @vd))))
def cD:=aj (aj (aj (aj (aj @DJ (aj @DL @DQ)) (aj (aj @D0 @DK) (aj @DH @DI))) (aj (aj (aj @DM @DN) (aj @DO @DP)) (aj (aj @qX @qY) (aj @vZ @vY)))) (aj (aj (aj @DR (aj @DA @DB)) (aj (aj @DC @DD) (aj @DF @DG))) (aj (aj (aj @DS @DU) (aj @DT @DV)) (aj (aj @DW @DX) (aj @DY @DZ))))) (aj (aj (aj (aj @Eg (aj @Ek @Em)) (aj (aj @sU @pb) (aj @sV @Ee))) (aj (aj (aj @wi @wk) (aj @wj @Ep)) (aj (aj @Er @Es) (aj @Et @Eu)))) (aj (aj (aj @Eh (aj @Ej @nJ)) (aj (aj @wm @Ei) (aj @Ef @El))) (aj (aj (aj @En @Eo) (aj @qZ @D_)) (aj (aj @Ea @Eb) (aj @Ec @Ed)))))
def c5:=aj (aj (aj @zf (aj @zo @zg)) (aj @zl (aj @zk @zj))) (aj (aj @zi (aj @zh @zm)) (aj @zn (aj @yh @BQ)))
def dq:=aj (aj (aj @ae.rC @ae.dp) (aj @ae.get_set_same @ae.get_set_other)) (aj (aj @ae.bT @ae.dj) (aj @ae.Cn @ae.set_set))
def dR:=aj (aj (aj (aj (aj (aj (aj @xM @xN) (aj @xv (aj @xr @xt))) (aj (aj @xR @xI) (aj @xJ (aj @xK @xL)))) (aj (aj (aj @xO @xS) (aj @xT (aj @xU @xP))) (aj (aj @xQ @xF) (aj @xG (aj @xw @xq))))) (aj (aj (aj (aj @xz @xA) (aj @xx (aj @xE @xH))) (aj (aj @xB @xu) (aj @xC (aj @xD @yC)))) (aj (aj (aj @yD @yE) (aj @yF (aj @yG @yH))) (aj (aj @yI @yJ) (aj @yK (aj @yL @yM)))))) (aj (aj (aj (aj (aj @yN @yO) (aj @yP (aj @yQ @yR))) (aj (aj @yS @yT) (aj @n9 (aj @n_ @yU)))) (aj (aj (aj @yV @yW) (aj @yX (aj @yY @yZ))) (aj (aj @y0 @y1) (aj @y2 (aj @y3 @y4))))) (aj (aj (aj (aj @y5 @y6) (aj @y7 (aj @y8 @y9))) (aj (aj @y_ @za) (aj @zb (aj @zc @zd)))) (aj (aj (aj @yt @yu) (aj @yv (aj @yw @yx))) (aj (aj @yy @yA) (aj @yB (aj @zE @zF))))))) (aj (aj (aj (aj (aj (aj @zG @zH) (aj @zI (aj @zJ @zK))) (aj (aj @zL @zM) (aj @zN (aj @zO @zP)))) (aj (aj (aj @zQ @zR) (aj @zS (aj @zT @zU))) (aj (aj @zV @zW) (aj @zX (aj @zY @zZ))))) (aj (aj (aj (aj @z1 @z6) (aj @z7 (aj @z8 @z_))) (aj (aj @Aa @Ab) (aj @Ac (aj @Ad @Ae)))) (aj (aj (aj @Af @Ag) (aj @Ah (aj @Ai @Aj))) (aj (aj @Ak @Al) (aj @Am (aj @An @zt)))))) (aj (aj (aj (aj (aj @zu @zv) (aj @zw (aj @zx @zy))) (aj (aj @zz @zB) (aj @Bv (aj @qd @rO)))) (aj (aj (aj @qe @rP) (aj @qf (aj @rQ @rR))) (aj (aj @u1 @lJ) (aj @qg (aj @Bp @Bq))))) (aj (aj (aj (aj @Br @Bs) (aj @rS (aj @u2 @Bt))) (aj (aj @Bu @Bl) (aj @Bm (aj @Bn @Bo)))) (aj (aj (aj @Az @AA) (aj @AD (aj @uC @AE))) (aj (aj @uD (aj @uE @AF)) (aj @AG (aj @uA @uB)))))))
def B4:=aj (aj @gH (aj @hq @qn)) (aj (aj @vf @rZ) (aj @ve @vd))
def al{p:Prop}(h:p:=by first|assumption|omega|(simp only[BW];omega)|(simp only[B4];done)|fail):p:=h
def M6{p:Prop}(h:p:=by first|assumption|omega|(simp only[BW];omega)|(simp only[B4];done)|(simp only[List.length_append,List.length_cons,List.length_nil];omega)|fail):p:=h
def GA:(∀cs,(aa.agg cs).cells=cs)/\(∀b,(aa.bool b).cells=[C b])/\(∀k n,(aa.int k n).cells=[.int k n])/\(∀s,(aa.str s).cells=[Y s])/\(∀l i c,(aa.ptr l i c).cells=[.ptr l i c])/\aa.nilPtr.cells=[.nilPtr]/\(∀l i n e c,(aa.aA l i n e c).cells=[.aA l i n e c])/\aa.ar.cells=[.ar]/\(∀f a b,(aa.func f a b).cells=[.func f a b])/\aa.nilFunc.cells=[.nilFunc]/\aa.nilIface.cells=[.nilIface]:=
 ⟨λ_=>rfl,λ_=>rfl,λ_ _=>rfl,λ_=>rfl,λ_ _ _=>rfl,rfl,λ_ _ _ _ _=>rfl,rfl,λ_ _ _=>rfl,rfl,rfl⟩
def ax:=aj @bf.eq_1 (aj @cI.eq_1 (aj @an.eq_1 (aj @aV.eq_1 (aj GA FB))))
end
abbrev aJ:=List UInt8
structure Tok where
 kind:Int
 text:aJ
 n:Int
 pos:Int
def Tok.none:Tok:=⟨0,[],0,0⟩
def au(T:List Tok)(at_:Int):Tok:=if at_<0\/(T.length:Int)<=at_ then .none else T[at_.toNat]?.getD .none
structure aw where
 at_:Int
 bP:Int
 aF:Int
 cS:Int
abbrev jR(n:Int):Int:=IntKind.i64.wrap n
structure bM where
 kind:Int
 n:Int:=0
 name:aJ:=[]
 cf:aJ:=[]
 c4:Int:=0
 pos:Int:=0
 sT:Int:=0
 D7:Int:=0
 pa:Int:=0
 ref:Int:=0
inductive aL where
 |mk (a:bM) (kids:List aL)
def aL.zero:aL:= .mk {kind:=0} []
def b_(T:List Tok)(s:aw)(k:Int)(x:aJ):Bool:=s.aF==0&&((au T s.at_).kind==k&&(au T s.at_).text==x)
def cL(T:List Tok)(e:Int)(s:aw):aw:=if s.aF=0 then {s with aF:=e,cS:=(au T s.at_).pos}else s
def aD(s:aw):aw:={s with at_:=jR (s.at_+1)}
def o_(T:List Tok)(k:Int)(x:aJ)(s:aw):Bool×aw:=bif b_ T s k x then(X,aD s)else(U,s)
def ej(T:List Tok)(x:aJ)(s:aw):Bool×aw:=bif b_ T s 4 x then(X,aD s)else(U,cL T 2 s)
def ds(T:List Tok)(x:aJ)(s:aw):Bool×aw:=bif b_ T s 4 x then(if 50<=s.bP then(U,cL T 4 s)else(X,{s with at_:=jR (s.at_+1),bP:=jR (s.bP+1)}))else(U,cL T 2 s)
def eo(s:aw):aw:={s with bP:=jR (s.bP-1)}
def h3(T:List Tok)(x:aJ)(s:aw):Bool×aw:=ej T x (eo s)
def gV(T:List Tok):Nat->Int->aw->(Int×aw) ⊕ aw
 |0,d,s=>bif b_ T s 4 [91]then .inr (cL T 4 s)else .inl (d,s)
 |n+1,d,s=>bif b_ T s 4 [91]then gV T n (d+1) (aD s)else .inl (d,s)
def jS(T:List Tok)(x:aJ):Nat->aw->aw
 |0,s=>s
 |n+1,s=>jS T x n (ej T x s).2
def iG(T:List Tok)(d:Int)(s:aw):(aJ×Int)×aw:=bif ((au T s.at_).kind != 1&&(!b_ T s 3 [105,110,116]&& !b_ T s 3 [98,111,111,108]))then(([],0),cL T 2 s) else(((au T s.at_).text,d),jS T [93] d.toNat (aD s))
def eN(T:List Tok)(s:aw):(aJ×Int)×aw:=match gV T 3 0 s with
 | .inr s'=>(([],0),s')
 | .inl (d,s')=>iG T d s'
def jE:List (List (aJ×Int)):=[[([124,124],24)],[([38,38],23)],[([60],19),([60,61],20),([61,61],21),([33,61],22)],[([43],14),([45],15)],[([42],16),([47],17),([37],18)]]
def lE(T:List Tok)(s:aw):List (aJ×Int)->Int
 |[]=>0
 |(x,k)::r=>bif b_ T s 4 x then k else lE T s r
def lF(T:List Tok)(lev:Nat)(s:aw):Int:=lE T s (jE[lev]?.getD [])
def D9(T:List Tok)(s:aw):aL×aw:=(.mk {kind:=2,n:=bif (au T s.at_).text==[116,114,117,101]then 1 else 0,pos:=(au T s.at_).pos} [],aD s)
def BV(T:List Tok)(s:aw):aL×aw:=(.mk {kind:=3,cf:=(eN T (aD s)).1.1,c4:=(eN T (aD s)).1.2,pos:=(au T s.at_).pos} [],(eN T (aD s)).2)
def qD(T:List Tok)(s:aw):aL×aw:=(.mk {kind:=11,pos:=(au T s.at_).pos} [],bif (ds T [40] (aD s)).1 then(h3 T [41] (ds T [40] (aD s)).2).2 else(ds T [40] (aD s)).2)
def iW(T:List Tok)(e:aL)(s:aw):aL×aw:=(.mk {kind:=5,name:=(au T (aD s).at_).text,pos:=(au T s.at_).pos} [e],aD (bif (au T (aD s).at_).kind != 1 then cL T 2 (aD s)else aD s))
abbrev ad(α:Type):=Option (α×aw)
mutual
def ht(T:List Tok):Nat->Nat->aw->ad aL
 |0,_,_=>Z
 |n+1,lev,s=>if lev=5 then nK T n s else(ht T n (lev+1) s).bind λp=>mX T n lev p.1 p.2
def mX(T:List Tok):Nat->Nat->aL->aw->ad aL
 |0,_,_,_=>Z
 |n+1,lev,e,s=>if lF T lev s=0 then D (e,s)else
  (ht T n (lev+1) (aD s)).bind λp=>mX T n lev (.mk {kind:=lF T lev s,pos:=(au T s.at_).pos} [e,p.1]) p.2
def nK(T:List Tok):Nat->aw->ad aL
 |0,_=>Z
 |n+1,s=>bif b_ T s 4 [45]then sR T n [45] 12 s else bif b_ T s 4 [33]then sR T n [33] 13 s else rn T n s
def sR(T:List Tok):Nat->aJ->Int->aw->ad aL
 |0,_,_,_=>Z
 |n+1,x,k,s=>bif (ds T x s).1 then(nK T n (ds T x s).2).bind λp=>D (.mk {kind:=k,pos:=(au T s.at_).pos} [p.1],eo p.2)else D (.zero,(ds T x s).2)
def rn(T:List Tok):Nat->aw->ad aL
 |0,_=>Z
 |n+1,s=>(kL T n s).bind λp=>jw T n p.1 p.2
def jw(T:List Tok):Nat->aL->aw->ad aL
 |0,_,_=>Z
 |n+1,e,s=>bif s.aF==0&&(au T s.at_).kind==4 then
  (bif (au T s.at_).text==[46]then jw T n (iW T e s).1 (iW T e s).2
  else bif (au T s.at_).text==[91]then(jQ T n [91] [93] s).bind λp=>jw T n (.mk {kind:=6,pos:=(au T s.at_).pos} [e,p.1]) p.2
  else D (e,s))else D (e,s)
def jQ(T:List Tok):Nat->aJ->aJ->aw->ad aL
 |0,_,_,_=>Z
 |n+1,b,c,s=>bif (ds T b s).1 then(ht T n 0 (ds T b s).2).bind λp=>D (p.1,(h3 T c p.2).2)else D (.zero,(ds T b s).2)
def kL(T:List Tok):Nat->aw->ad aL
 |0,_=>Z
 |n+1,s=>if s.aF≠0 then D (.zero,s)else
  if(au T s.at_).kind=2 then D (.mk {kind:=1,n:=(au T s.at_).n,pos:=(au T s.at_).pos} [],aD s)else
  if(au T s.at_).kind=1 then u9 T n s else
  if(au T s.at_).kind=3\/(au T s.at_).kind=4 then
   (bif (au T s.at_).kind==4 then(bif (au T s.at_).text==[40]then jQ T n [40] [41] s else D (.zero,cL T 2 s))
   else bif (au T s.at_).text==[116,114,117,101]||(au T s.at_).text==[102,97,108,115,101]then D (D9 T s)
   else bif (au T s.at_).text==[110,117,108,108]then D (BV T s)
   else bif (au T s.at_).text==[110,101,119]then um T n s
   else bif (au T s.at_).text==[108,101,110]then(jQ T n [40] [41] (aD s)).bind λp=>D (.mk {kind:=10,pos:=(au T s.at_).pos} [p.1],p.2)
   else bif (au T s.at_).text==[114,101,97,100]then D (qD T s)
   else D (.zero,cL T 2 s))
  else D (.zero,cL T 2 s)
def u9(T:List Tok):Nat->aw->ad aL
 |0,_=>Z
 |n+1,s=>bif b_ T (aD s) 4 [40]then(qc T n (aD s)).bind λp=>D (.mk {kind:=7,name:=(au T s.at_).text,pos:=(au T s.at_).pos} p.1,p.2)
  else D (.mk {kind:=4,name:=(au T s.at_).text,pos:=(au T s.at_).pos} [],aD s)
def um(T:List Tok):Nat->aw->ad aL
 |0,_=>Z
 |n+1,s=>bif b_ T (aD s) 4 [91]then
  (jQ T n [40] [41] (ej T [93] (eN T (aD (aD s))).2).2).bind λp=>
   D (.mk {kind:=9,cf:=(eN T (aD (aD s))).1.1,c4:=(eN T (aD (aD s))).1.2,pos:=(au T s.at_).pos} [p.1],p.2)
  else D (.mk {kind:=8,cf:=(au T (aD s).at_).text,pos:=(au T s.at_).pos} [],aD (bif (au T (aD s).at_).kind != 1 then cL T 2 (aD s)else aD s))
def qc(T:List Tok):Nat->aw->ad (List aL)
 |0,_=>Z
 |n+1,s=>bif (ds T [40] s).1 then
  (bif b_ T (ds T [40] s).2 4 [41]then D ([],(h3 T [41] (ds T [40] s).2).2)
  else(ht T n 0 (ds T [40] s).2).bind λp=>ov T n [p.1] p.2)
  else D ([],(ds T [40] s).2)
def ov(T:List Tok):Nat->List aL->aw->ad (List aL)
 |0,_,_=>Z
 |n+1,l,s=>bif (o_ T 4 [44] s).1 then(ht T n 0 (o_ T 4 [44] s).2).bind λp=>ov T n (l++[p.1]) p.2
  else D (l,(h3 T [41] (o_ T 4 [44] s).2).2)
end
def Tok.cells(t:Tok):List aa:=[I J t.kind,Y t.text,I J t.n,I J t.pos]
def Tok.v(t:Tok):aa:= .agg [I J t.kind,Y t.text,I J t.n,I J t.pos]
def eS(H:ae)(v:aa)(T:List Tok):Prop:=(v= .ar/\T=[])\/∃l i cap,v= .aA l i T.length 4 cap/\(T=[]\/∃ro els,H.get l=D (.row ro 4 els)/\∀(k:Nat) (t:Tok),T[k]? =D t->els[i+k]? =D t.cells)
def iP(H:ae)(r:Nat)(ao cr:aa)(s:aw):Prop:=H.get r=D (.row U 6 [[ao,I J s.at_,I J s.bP,cr,I J s.aF,I J s.cS]])
def Ii:List (List (List aa)):=[[[Y [124,124],I J 24]],[[Y [38,38],I J 23]],[[Y [60],I J 19],[Y [60,61],I J 20],[Y [61,61],I J 21],[Y [33,61],I J 22]],[[Y [43],I J 14],[Y [45],I J 15]],[[Y [42],I J 16],[Y [47],I J 17],[Y [37],I J 18]]]
def nN(H:ae)(cr:aa):Prop:=∃l i cap ro els,cr= .aA l i 5 1 cap/\H.get l=D (.row ro 1 els)/\∀(k:Nat) (row:List (List aa)),Ii[k]? =D row->∃l' c d h a,els[i+k]? =D [.aA l' c row.length 2 d]/\H.get l'=D (.row h 2 a)/\∀(j:Nat) (e:List aa),row[j]? =D e->a[c+j]? =D e
def nM(H:ae)(cr:aa):Prop:=cr= .ar\/nN H cr
structure js(H:ae)(r:Nat)(T:List Tok)(ao cr:aa)(s:aw):Prop where
 rd:iP H r ao cr s
 bx:eS H ao T
 cr:nM H cr
abbrev b5(r:Nat):ae->ae->Prop:=cP (· =r)
def eS.aX{H H':ae}{v:aa}{T:List Tok}(h:eS H v T)(p:∀l ro els,H.get l=D (.row ro 4 els)->H'.get l=D (.row ro 4 els)):eS H' v T:=by
 rcases h with h|⟨l,i,cap,c,a|⟨ro,els,a,d⟩⟩
 ·exact .inl h
 ·exact .inr ⟨l,i,cap,c,.inl a⟩
 ·exact .inr ⟨l,i,cap,c,.inr ⟨ro,els,p _ _ _ a,d⟩⟩
def eS.aM{H H':ae}{v:aa}{T:List Tok}(h:eS H v T)(p:aO H H'):eS H' v T:=h.aX λ_ _ _ e=>p.get e
def eS.one{H:ae}{v:aa}{T:List Tok}(h:eS H v T):v.one=true:=by
 rcases h with⟨rfl,_⟩|⟨l,i,cap,rfl,_⟩<;>rfl
def nN.one{H:ae}{v:aa}(h:nN H v):v.one=true:=by
 obtain⟨l,i,cap,ro,els,rfl,_⟩:=h;rfl
def nM.one{H:ae}{v:aa}(h:nM H v):v.one=true:=by
 rcases h with rfl|h
 ·rfl
 ·exact h.one
def nN.aX{H H':ae}{v:aa}(h:nN H v)(p:∀l ro n els,n≠6->H.get l=D (.row ro n els)->H'.get l=D (.row ro n els)):nN H' v:=by
 obtain⟨l,i,cap,ro,els,m,o,q⟩:=h;refine⟨l,i,cap,ro,els,m,p _ _ _ _ af o,λk row s=> ?_⟩;obtain⟨l',u,a,w,j,c,d,e⟩:=q k row s;exact⟨l',u,a,w,j,c,p _ _ _ _ af d,e⟩
def nM.aX{H H':ae}{v:aa}(h:nM H v)(p:∀l ro n els,n≠6->H.get l=D (.row ro n els)->H'.get l=D (.row ro n els)):nM H' v:=by
 rcases h with rfl|h
 ·exact .inl rfl
 ·exact .inr (h.aX p)
def iP.aM{H H':ae}{r:Nat}{ao cr:aa}{s:aw}(a:iP H r ao cr s)(p:aO H H'):iP H' r ao cr s:=p.get a
def iP.lt{H:ae}{r:Nat}{ao cr:aa}{s:aw}(a:iP H r ao cr s):r<H.next:=ae.aS a
def js.mut{H H':ae}{r:Nat}{T:List Tok}{ao cr:aa}{s s':aw}(h:js H r T ao cr s)(m:b5 r H H')(c:iP H' r ao cr s'):js H' r T ao cr s':=by
 have a:∀l ro n els,n≠6->H.get l=D (.row ro n els)->H'.get l=D (.row ro n els):=λl ro n els d e=>m.get e (by
  rintro rfl;rw[h.rd]at e;simp only[aU,bO.row.injEq]at e;exact d e.2.1.symm)
 exact⟨c,h.bx.aX λl ro els e=>a l ro 4 els af e,h.cr.aX a⟩
def js.aM{H H':ae}{r:Nat}{T:List Tok}{ao cr:aa}{s:aw}(h:js H r T ao cr s)(p:aO H H'):js H' r T ao cr s:=h.mut (p.mut _) (h.rd.aM p)
def kP(c:Int):Bool:=(decide (97<=c)&&decide (c<=122))||(decide (65<=c)&&decide (c<=90))
def lB(c:Int):Bool:=decide (48<=c)&&decide (c<=57)
def ey(b:UInt8):Bool:=kP b.toNat
def eu(b:UInt8):Bool:=lB b.toNat
def pj:List aJ:=[[114,101,99,111,114,100],[103,108,111,98,97,108],[102,117,110,99],[118,97,114],[108,101,116],[105,102],[101,108,115,101],[119,104,105,108,101],[114,101,116,117,114,110],[112,114,105,110,116],[110,117,108,108],[110,101,119],[108,101,110],[114,101,97,100],[116,114,117,101],[102,97,108,115,101],[105,110,116],[98,111,111,108]]
def gG(x:aJ):List aJ->Bool
 |[]=>U
 |y::a=>y==x||gG x a
def jn(x:aJ):Bool:=gG x pj
def mo:aJ->Bool
 |[]=>X
 |c::r=>(ey c||eu c)&&mo r
def en(x:aJ):Bool:=decide (1<=x.length)&&(decide (x.length<=8)&&(ey (x.headD 0)&&(!jn x&&mo x)))
def runN(d:Bool):aJ->Nat
 |[]=>0
 |c::r=>bif eu c||(!d&&ey c)then runN d r+1 else 0
def iM:Int->aJ->Option Int
 |n,[]=>D n
 |n,c::r=>if(9223372036854775807-((c.toNat:Int)-48))/10<n then Z else iM (10*n+((c.toNat:Int)-48)) r
def jj:List aJ:=[[60,61],[61,61],[33,61],[38,38],[124,124]]
def gW:aJ:=[123,125,40,41,91,93,59,58,44,46,61,43,45,42,47,37,60,33]
def ja(c:UInt8):aJ->Bool
 |[]=>U
 |y::a=>c.toNat==y.toNat||ja c a
def hc(s:aJ):aJ:=bif decide (2<=s.length)&&gG (s.take 2) jj then s.take 2 else match s with
 |c::_=>bif ja c gW then[c]else[]
 |[]=>[]
def iB(c:UInt8):Bool:=c.toNat==32||(c.toNat==9||(c.toNat==10||c.toNat==13))
def c2:Bool->aJ->Nat
 |_,[]=>0
 |true,c::r=>bif c.toNat==10 then c2 U r+1 else c2 X r+1
 |false,c::r=>bif iB c then c2 U r+1 else bif c==47&&r.head?==D 47 then c2 X r+1 else 0
def hp(s:aJ):Option (Int×aJ×Int×Nat):=match s with
 |[]=>Z
 |c::_=>
  bif ey c then(bif jn (s.take (runN U s))then D (3,s.take (runN U s),0,runN U s)else bif en (s.take (runN U s))then D (1,s.take (runN U s),0,runN U s)else Z)
  else bif eu c then
   (match iM 0 (s.take (runN X s))with
   |none=>Z
   |some v=>bif (decide (1<runN X s)&&c.toNat==48)||(decide (runN X s<s.length)&&ey ((s[runN X s]?).getD 0))then Z else D (2,[],v,runN X s))
  else bif hc s==[]then Z else D (4,hc s,0,(hc s).length)
def gk:Nat->aJ->Nat->Nat ⊕ List Tok
 |0,_,p=> .inl p
 |_+1,[],p=> .inr [⟨0,[],0,p⟩]
 |n+1,c::r,p=>match hp (c::r)with
  |none=> .inl p
  |some (k,t,v,m)=>match gk n (((c::r).drop m).drop (c2 U ((c::r).drop m))) (p+m+c2 U ((c::r).drop m))with
   | .inl e=> .inl e
   | .inr l=> .inr (⟨k,t,v,p⟩::l)
def qb(s:aJ):Nat ⊕ List Tok:=gk (s.length+1) (s.drop (c2 U s)) (c2 U s)
def dx(s:aJ):List Tok×Int×Int:=if 6000<s.length then([],4,0)else match qb s with
 | .inl e=>([],1,e)
 | .inr l=>(l,0,0)
def HN(s:List UInt8)(k:Int):eD P 9 (Y s) (I J k)=if 0<=k then(match s[k.toNat]? with|some b=>D (I .u8 b.toNat)|none=>Z)else none:=ah
def jD{s:List UInt8}{k:Nat}{b:UInt8}(h:s[k]? =D b):eD P 9 (Y s) (I J (k:Int))=D (I .u8 b.toNat):=by
 rw[HN,if_pos af];simp[h]
def HO{s:List UInt8}{b:UInt8}(h:s[0]? =D b):eD P 9 (Y s) (I J 0)=D (I .u8 b.toNat):=jD (k:=0) h
def kD(a b:Nat)(h:a+b<=4000000000000000000):IntKind.i64.wrap ((a:Int)+(b:Int))=((a+b:Nat):Int):=by rw[wrap_i64 af af];omega
def hW(a:Nat)(h:a<=4000000000000000000):IntKind.i64.wrap ((a:Int)+1)=((a+1:Nat):Int):=by rw[wrap_i64 af af];omega
def s5(a:Nat)(h:a<=4000000000000000000):IntKind.i64.wrap ((a:Int)+2)=((a+2:Nat):Int):=by rw[wrap_i64 af af];omega
def ER(a b:Nat)(h:a<=4000000000000000000)(c:b<=a):IntKind.i64.wrap ((a:Int)-(b:Int))=((a-b:Nat):Int):=by rw[wrap_i64 af af];omega
def oo{H:ae}(c:Int):W (aC P az 62 [I .u8 c] H) λv H'=>v= C (kP c)/\H'=H:=by
 refine cz (λ_=>JZ 0) ?_;unfold kP;cases a:decide (97<=c)<;>cases d:decide (c<=122)<;>cases e:decide (65<=c)<;>cases h:decide (c<=90)<;>
  (simp-implicitDefEqProofs(disch:=try exact al)only[sJ,bf,br,c5,a,d,e,h];exact bb.2 ⟨rfl,rfl⟩)
def tU{H:ae}(c:Int):W (aC P az 66 [I .u8 c] H) λv H'=>v= C (lB c)/\H'=H:=by
 refine cz (λ_=>J3 0) ?_;unfold lB;cases a:decide (48<=c)<;>cases d:decide (c<=57)<;>
  (simp-implicitDefEqProofs(disch:=try exact al)only[sK,bf,br,c5,a,d];exact bb.2 ⟨rfl,rfl⟩)
def drop_cons{s:aJ}{k:Nat}{c:UInt8}{r:aJ}(h:s.drop k=c::r):s[k]? =D c/\s.drop (k+1)=r/\k<s.length/\s.length=k+1+r.length:=by
 have a:s[k]? =D c:=by
  have:=List.getElem?_drop (xs:=s) (i:=k) (j:=0);rw[h]at this;simpa using this.symm
 have d:s.drop (k+1)=r:=by
  have:(s.drop k).drop 1=r:=by rw[h];rfl
  rwa[List.drop_drop]at this
 have e:k<s.length:=(List.getElem?_eq_some_iff.1 a).1;have l:=congrArg List.length h;simp at l;exact⟨a,d,e,af⟩
def drop_nil{s:aJ}{k:Nat}(h:s.drop k=[]):s.length<=k:=List.drop_eq_nil_iff.1 h
def C6{H:ae}{s:aJ}(aB:s.length<=1000000000000000000)(at_:Nat)(d:Bool)(N:Nat):∀(rest:aJ) (n m:Nat),s.drop (at_+n)=rest->at_+n<=s.length->rest.length<m->
  W (k7 (aC P az) N m (Y s) (I J at_) (C d) (I J n) H) λv H'=>v= I J ((n+runN d rest:Nat):Int)/\H'=H
 |_,_,0,_,_,hm=>af
 |[],n,m+1,h,u,hm=>by
  have:=drop_nil h;have i:¬(((at_+n:Nat):Int)<(s.length:Int)):=af;simp-implicitDefEqProofs(disch:=try exact al)only[k7,jc,kn,jN,reduceAdd,reduceLeDiff,reduceIte,ax,kD,i,decide_false];exact bb.2 ⟨by simp[runN],rfl⟩
 |c::r,n,m+1,h,u,hm=>by
  obtain⟨p,q,x,y⟩:=drop_cons h;have i:(((at_+n:Nat):Int)<(s.length:Int)):=af;have w:=C6 (H:=H) aB at_ d N r (n+1) m (by rw[<-Nat.add_assoc];exact q) af (by simp at hm;omega);have j:=jD p;simp-implicitDefEqProofs(disch:=try exact al)only[k7,jc,kn,jN,reduceAdd,reduceLeDiff,reduceIte,ax,kD,i,decide_true,j];refine nT (tU _) ?_;have fin:∀b,(eu c||(!d&&ey c))=b->(b=X->W (k7 (aC P az) N m (Y s) (I J at_) (C d) (I J ((n+1:Nat):Int)) H) λv H'=>v= I J ((n+runN d (c::r):Nat):Int)/\H'=H)/\(b=U->n+runN d (c::r)=n):=by
   intro b k;refine⟨λh=> ?_,λh=> ?_⟩
   ·refine w.mono ?_;rintro v H' ⟨rfl,rfl⟩;subst h;have e:runN d (c::r)=runN d r+1:=by rw[runN,k];rfl
    have o:n+1+runN d r=n+runN d (c::r):=by rw[e];omega
    exact⟨by rw[o],rfl⟩
   ·subst h;rw[runN,k];rfl
  cases a:lB (c.toNat:Int)with
  |true=>
   simp-implicitDefEqProofs(disch:=try exact al)only[jc,kn,jN,bf,br,c5,hW];exact(fin X (by simp[eu,a])).1 rfl
  |false=>
   cases d with
   |true=>
    simp-implicitDefEqProofs(disch:=try exact al)only[jc,kn,jN,bf,br,Bool.not_true];exact bb.2 ⟨by rw[(fin U (by simp[eu,a])).2 rfl],rfl⟩
   |false=>
    simp-implicitDefEqProofs(disch:=try exact al)only[jc,kn,jN,reduceAdd,reduceLeDiff,reduceIte,ax,Bool.not_false,kD,j];refine nT (oo _) ?_;cases l:kP (c.toNat:Int)with
    |true=>
     simp-implicitDefEqProofs(disch:=try exact al)only[jc,kn,jN,bf,br,c5,hW];exact(fin X (by simp[eu,ey,a,l])).1 rfl
    |false=>
     simp-implicitDefEqProofs(disch:=try exact al)only[jc,kn,jN,bf,br];exact bb.2 ⟨by rw[(fin U (by simp[eu,ey,a,l])).2 rfl],rfl⟩
def C9{H:ae}{s:aJ}(aB:s.length<=1000000000000000000)(at_:Nat)(a:at_<=s.length)(d:Bool):W (aC P az 63 [Y s,I J at_,C d] H) λv H'=>v= I J (runN d (s.drop at_):Nat)/\H'=H:=by
 refine cz (λ_=>J0 (s.length+1)) ?_;rw[jN];have:=C6 (H:=H) aB at_ d (s.length+1) (s.drop at_) 0 (s.length+1) rfl af (by simp;omega);simpa using this
def w3{H:ae}{x:aJ}{l:Nat}(N:Nat)(all:List aJ)(i:all.length<=1000)(d:H.get l=D (.row U 1 (all.map λy=>[aa.str y]))):∀(rest pre:List aJ),all=pre++rest->∀(m:Nat),rest.length<m->
  W (l4 (aC P az) N m (Y x) (.aA l 0 all.length 1 (D all.length)) (I J pre.length) H) λv H'=>v= C (gG x rest)/\H'=H
 |_,_,_,0,hm=>af
 |[],pre,aG,m+1,hm=>by
  have a:¬((pre.length:Int)<(all.length:Int)):=by rw[aG];simp
  simp-implicitDefEqProofs(disch:=try exact al)only[l4,k8,nw,nv,l3,reduceAdd,reduceLeDiff,reduceIte,ax,a,decide_false];exact bb.2 ⟨rfl,rfl⟩
 |y::j,pre,aG,m+1,hm=>by
  have a:((pre.length:Int)<(all.length:Int)):=by rw[aG];simp;omega
  have k:(0:Int)<=(pre.length:Int):=af;have h:((pre.length:Int)).toNat=pre.length:=af;have hle:pre.length<all.length:=af;have he:(all.map λy=>[aa.str y])[pre.length]? =D [aa.str y]:=by rw[aG];simp
  have hw:((pre++[y]).length:Int)=((pre.length+1:Nat):Int):=by simp
  simp-implicitDefEqProofs(disch:=try exact al)only[l4,k8,nw,nv,l3,reduceAdd,reduceLeDiff,reduceIte,ax,a,decide_true,d,h,he];cases c:y==x with
  |true=>
   simp-implicitDefEqProofs(disch:=try exact al)only[k8,nw,nv,l3,bf,br];exact bb.2 ⟨by simp[gG,c],rfl⟩
  |false=>
   have e:=w3 (H:=H) (x:=x) N all i d j (pre++[y]) (by simp[aG]) m (by simp at hm;omega);rw[hw]at e;simp-implicitDefEqProofs(disch:=try exact al)only[k8,nw,nv,l3,bf,br,c5,hW];refine e.mono ?_;rintro v H' ⟨rfl,rfl⟩;exact⟨by simp[gG,c],rfl⟩
def w4{H:ae}(x:aJ):W (aC P az 64 [Y x] H) λv H'=>v= C (jn x)/\aO H H':=by
 refine cz (λ_=>J1 19) ?_;rw[l3];have hw:W (aC P az 81 [] H) λv H'=>v= .aA H.next 0 pj.length 1 (D pj.length)/\H'=H.push (.row U 1 (pj.map λy=>[aa.str y])):=by
  refine cz (λ_=>Ka 0) ?_;rw[sN];simp only[s6,vM];exact bb.2 ⟨rfl,rfl⟩
 refine aN hw ?_;rintro _ _ ⟨rfl,rfl⟩;refine⟨(aO.push _ _).1,?_⟩;rw[nv];refine(w3 (x:=x) 19 pj cp (ae.bC _ _) pj [] rfl 19 cp).mono ?_;rintro v H' ⟨rfl,rfl⟩;exact⟨rfl,aO.push _ _⟩
def wU{H:ae}{s:aJ}(aB:s.length<=1000000000000000000)(N:Nat):∀(rest:aJ) (n m:Nat),s.drop n=rest->n<=s.length->rest.length<m->
  W (l5 (aC P az) N m (Y s) (I J n) H) λv H'=>v= C (mo rest)/\H'=H
 |_,_,0,_,_,hm=>af
 |[],n,m+1,h,p,hm=>by
  have:=drop_nil h;have a:¬((n:Int)<(s.length:Int)):=af;simp-implicitDefEqProofs(disch:=try exact al)only[l5,gL,hT,hy,reduceAdd,reduceLeDiff,reduceIte,ax,a,decide_false];exact bb.2 ⟨by simp[mo],rfl⟩
 |c::r,n,m+1,h,p,hm=>by
  obtain⟨l,o,q,u⟩:=drop_cons h;have a:((n:Int)<(s.length:Int)):=af;have k:=wU (H:=H) aB N r (n+1) m o af (by simp at hm;omega);have d:=jD l;simp-implicitDefEqProofs(disch:=try exact al)only[l5,gL,hT,hy,reduceAdd,reduceLeDiff,reduceIte,ax,a,decide_true,d];refine lr (oo _) ?_;cases j:kP (c.toNat:Int)with
  |true=>
   simp-implicitDefEqProofs(disch:=try exact al)only[gL,hT,hy,bf,br,c5,Bool.not_true,hW];refine k.mono ?_;rintro v H' ⟨rfl,e⟩;exact⟨by simp[mo,ey,j],e⟩
  |false=>
   simp-implicitDefEqProofs(disch:=try exact al)only[gL,hT,hy,reduceAdd,reduceLeDiff,reduceIte,ax,Bool.not_false,d];refine nT (tU _) ?_;cases i:lB (c.toNat:Int)with
   |true=>
    simp-implicitDefEqProofs(disch:=try exact al)only[gL,hT,hy,bf,br,c5,Bool.not_true,hW];refine k.mono ?_;rintro v H' ⟨rfl,e⟩;exact⟨by simp[mo,eu,i],e⟩
   |false=>
    simp-implicitDefEqProofs(disch:=try exact al)only[gL,hT,hy,bf,br,c5,Bool.not_false];exact bb.2 ⟨by simp[mo,ey,eu,j,i],rfl⟩
def Fb{H:ae}{s:aJ}(aB:s.length<=1000000000000000000):W (aC P az 65 [Y s] H) λv H'=>v= C (en s)/\aO H H':=by
 refine cz (λ_=>J2 (s.length+1)) ?_;cases d:s with
 |nil=>
  have a:((([]:aJ).length:Nat):Int)<1:=by simp
  simp-implicitDefEqProofs(disch:=try exact al)only[gL,hT,hy,bf,br,dR,c5,a,decide_true];exact bb.2 ⟨by simp[en],.refl _⟩
 |cons c r=>
  rw[<-d];have p:1<=s.length:=by rw[d];simp
  have a:¬((s.length:Int)<1):=af;have n:s[0]? =D c:=by rw[d];rfl
  have o:=HO n;have l:s.headD 0=c:=by rw[d];rfl
  by_cases j:(8:Int)<(s.length:Int)
  ·have h:¬s.length<=8:=af;simp-implicitDefEqProofs(disch:=try exact al)only[gL,hT,hy,bf,br,dR,c5,a,j,decide_true,decide_false];exact bb.2 ⟨by simp[en,h],.refl _⟩
  ·have h:s.length<=8:=af;simp-implicitDefEqProofs(disch:=try exact al)only[gL,hT,hy,bf,br,dR,c5,a,j,decide_false,o];refine nT (oo _) ?_;cases k:kP (c.toNat:Int)with
   |false=>
    simp-implicitDefEqProofs(disch:=try exact al)only[gL,hT,hy,bf,br,Bool.not_false];exact bb.2 ⟨by unfold en;rw[l];simp[ey,k],.refl _⟩
   |true=>
    simp-implicitDefEqProofs(disch:=try exact al)only[gL,hT,hy,bf,br,Bool.not_true];refine iR (w4 s) ?_;rintro _ m ⟨rfl,i⟩;refine⟨i.1,?_⟩;cases hw:jn s with
    |true=>
     simp-implicitDefEqProofs(disch:=try exact al)only[gL,hT,hy,bf,br];exact bb.2 ⟨by simp[en,hw],i⟩
    |false=>
     simp-implicitDefEqProofs(disch:=try exact al)only[gL,hy,bf,br];refine(wU (H:=m) aB (s.length+1) s 0 (s.length+1) rfl af af).mono ?_;rintro v H' ⟨rfl,e⟩;exact⟨by unfold en;rw[l];simp[p,h,ey,k,hw],by rw[e];exact i⟩
def yb(n:Int):lu P 5 3 (I .u8 n)=D (I J (IntKind.i64.wrap n)):=ah
def Cv(t:Bool)(a:Int):aq P .quo 3 t (I J a) (I J 10)=D (I J (IntKind.i64.wrap (a.tdiv 10))):=by simp[aq,hj]
def Ir(t:Bool)(a b:Int):aq P .mul 3 t (I J a) (I J b)=D (I J (IntKind.i64.wrap (a*b))):=GW _ _ _ _ _
def wrap_u8{n:Int}(a:0<=n)(c:n<=255):IntKind.u8.wrap n=n:=by
 show n%256=n;omega
def EN{H:ae}{s:aJ}(aB:s.length<=1000000000000000000)(N:Nat):∀(rest:aJ) (n m:Nat) (acc:Int),s.drop n=rest->n<=s.length->rest.length<m->0<=acc->acc<=9223372036854775807->(∀c∈rest,eu c=X)->
  W (k9 (aC P az) N m (Y s) (I J acc) (I J n) H) λv H'=>v=(match iM acc rest with|some z=> .tuple [I J z,C X]|none=> .tuple [I J 0,C U])/\H'=H
 |_,_,0,_,_,_,hm,_,_,_=>af
 |[],n,m+1,acc,h,B,hm,y,A,j=>by
  have:=drop_nil h;have a:¬((n:Int)<(s.length:Int)):=af;simp-implicitDefEqProofs(disch:=try exact al)only[k9,l6,o3,nx,reduceAdd,reduceLeDiff,reduceIte,ax,a,decide_false];exact bb.2 ⟨by simp[iM],rfl⟩
 |c::r,n,m+1,acc,h,B,hm,y,A,j=>by
  obtain⟨w,x,K,L⟩:=drop_cons h;have a:((n:Int)<(s.length:Int)):=af;have k:=jD w;have i:=j c (by simp);simp only[eu,lB,Bool.and_eq_true,decide_eq_true_eq]at i;have l:IntKind.u8.wrap ((c.toNat:Int)-48)=(c.toNat:Int)-48:=wrap_u8 af af;have o:IntKind.i64.wrap ((c.toNat:Int)-48)=(c.toNat:Int)-48:=wrap_i64 af af;have p:IntKind.i64.wrap (9223372036854775807-((c.toNat:Int)-48))=9223372036854775807-((c.toNat:Int)-48):=wrap_i64 af af;have q:(9223372036854775807-((c.toNat:Int)-48)).tdiv 10=(9223372036854775807-((c.toNat:Int)-48))/10:=Int.tdiv_eq_ediv_of_nonneg af;have u:IntKind.i64.wrap ((9223372036854775807-((c.toNat:Int)-48))/10)=(9223372036854775807-((c.toNat:Int)-48))/10:=wrap_i64 af af
  by_cases d:(9223372036854775807-((c.toNat:Int)-48))/10<acc
  ·simp-implicitDefEqProofs(disch:=try exact al)only[k9,l6,o3,nx,reduceAdd,reduceLeDiff,reduceIte,ax,a,decide_true,k,l,o,p,q,u,Cv,pk,yb,d];exact bb.2 ⟨by simp[iM,d],rfl⟩
  ·have F:IntKind.i64.wrap (10*acc)=10*acc:=wrap_i64 af af;have G:IntKind.i64.wrap (10*acc+((c.toNat:Int)-48))=10*acc+((c.toNat:Int)-48):=wrap_i64 af af;have E:=EN (H:=H) aB N r (n+1) m (10*acc+((c.toNat:Int)-48)) x af (by simp at hm;omega) af af (λc i=>j c (by simp[i]));simp-implicitDefEqProofs(disch:=try exact al)only[k9,l6,o3,nx,reduceAdd,reduceLeDiff,reduceIte,ax,a,decide_true,k,l,o,p,q,u,F,G,Cv,Ir,pk,yb,d,decide_false,hW];refine E.mono ?_;rintro v H' ⟨rfl,e⟩;exact⟨by rw[iM,if_neg d],e⟩
def C3:∀(s:aJ),∀c∈s.take (runN X s),eu c=X
 |[],c,h=>by simp[runN]at h
 |x::r,c,h=>by
  rw[runN]at h;cases a:eu x with
  |true=>
   simp only[a,Bool.true_or,aY,List.take_succ_cons,List.mem_cons]at h;rcases h with rfl|h
   ·exact a
   ·exact C3 r c h
  |false=>simp[a]at h
def MU{H:ae}{s:aJ}(aB:s.length<=1000000000000000000)(a:∀c∈s,eu c=X):W (aC P az 67 [Y s] H) λv H'=>v=(match iM 0 s with|some z=> .tuple [I J z,C X]|none=> .tuple [I J 0,C U])/\H'=H:=by
 refine cz (λ_=>J4 (s.length+1)) ?_;rw[nx];exact EN aB (s.length+1) s 0 (s.length+1) 0 rfl af af af af a
def MM:P.underlying 9=D .string:=ah
def qU{s:List UInt8}{a b:Nat}(e:a<=b)(h:b<=s.length):ju P 9 (Y s) (D (I J (a:Int))) (D (I J (b:Int))) Z=D (Y ((s.drop a).take (b-a))):=by
 have c:eC (D (I J (b:Int))) s.length s.length=D b:=by simp[eC];omega
 have d:eC (D (I J (a:Int))) 0 b=D a:=by simp[eC];omega
 simp only[ju,MM,c,d]
def B6{H:ae}{s:aJ}{at_:Nat}{c:UInt8}(l:s[at_]? =D c)(N:Nat):∀(rest:aJ) (j m:Nat),gW.drop j=rest->j<=18->rest.length<m->
  W (k_ (aC P az) N m (Y s) (I J at_) (Y gW) (I J j) H) λv H'=>v= Y (bif ja c rest then[c]else[])/\H'=H
 |_,_,0,_,_,hm=>af
 |[],j,m+1,h,x,hm=>by
  have:=drop_nil h;have z:gW.length=18:=rfl;have d:¬((j:Int)<(gW.length:Int)):=af;simp-implicitDefEqProofs(disch:=try exact al)only[k_,jd,o4,kq,kp,ko,jO,reduceAdd,reduceLeDiff,reduceIte,ax,d,decide_false];exact bb.2 ⟨by simp[ja],rfl⟩
 |y::r,j,m+1,h,x,hm=>by
  obtain⟨q,u,B,E⟩:=drop_cons h;have z:gW.length=18:=rfl;have d:((j:Int)<(gW.length:Int)):=af;have k:=jD q;have n:=jD l;have A:=B6 (H:=H) l N r (j+1) m u af (by simp at hm;omega);have p:=qU (s:=gW) (a:=j) (b:=j+1) af af;have w:(gW.drop j).take (j+1-j)=[y]:=by rw[h,Nat.add_sub_cancel_left];rfl
  rw[w]at p;cases he:((c.toNat:Int)==(y.toNat:Int))with
  |true=>
   have o:c=y:=by
    have:(c.toNat:Int)=(y.toNat:Int):=by simpa using he
    exact UInt8.toNat_inj.1 af
   have i:(c.toNat==y.toNat)=true:=by rw[o];simp
   simp-implicitDefEqProofs(disch:=try exact al)only[k_,jd,o4,kq,kp,ko,jO,reduceAdd,reduceLeDiff,reduceIte,ax,d,decide_true,k,n,he,hW,p];exact bb.2 ⟨by simp[ja,i,o],rfl⟩
  |false=>
   have i:(c.toNat==y.toNat)=false:=by
    have:¬(c.toNat:Int)=(y.toNat:Int):=by simpa using he
    simp;omega
   simp-implicitDefEqProofs(disch:=try exact al)only[k_,jd,o4,kq,kp,ko,jO,reduceAdd,reduceLeDiff,reduceIte,ax,d,decide_true,k,n,he,hW];refine A.mono ?_;rintro v H' ⟨rfl,e⟩;exact⟨by simp[ja,i],e⟩
def Iz{H:ae}{s:aJ}{at_:Nat}{c:UInt8}(a:s[at_]? =D c){N:Nat}(d:18<N):W (kq (aC P az) N (Y s) (I J at_) H) λv H'=>v= Y (bif ja c gW then[c]else[])/\H'=H:=by
 rw[kq];exact B6 a N gW 0 N rfl af (by simp[gW];omega)
def Ew{H:ae}{s:aJ}(aB:s.length<=1000000000000000000){at_:Nat}{c:UInt8}{r:aJ}(n:s.drop at_=c::r){l:Nat}{N:Nat}(x:18<N)(i:H.get l=D (.row U 1 (jj.map λy=>[aa.str y]))):∀(rest pre:List aJ),jj=pre++rest->∀(m:Nat),rest.length<m->
  W (kr (aC P az) N m (Y s) (I J at_) (.aA l 0 5 1 (D 5)) (I J pre.length) H) λv H'=>v= Y (bif decide (2<=(s.drop at_).length)&&gG ((s.drop at_).take 2) rest then(s.drop at_).take 2 else bif ja c gW then[c]else[])/\H'=H
 |_,_,_,0,hm=>af
 |[],pre,aG,m+1,hm=>by
  have K:pre.length=5:=by have:=congrArg List.length aG;simpa [jj]using this.symm
  have d:¬((pre.length:Int)<((5:Nat):Int)):=af;obtain⟨w,E,F,G⟩:=drop_cons n;simp-implicitDefEqProofs(disch:=try exact al)only[kr,jd,kp,ko,jO,reduceAdd,reduceLeDiff,reduceIte,ax,d,decide_false];refine(Iz w x).mono ?_;rintro v H' ⟨rfl,e⟩;exact⟨by simp[gG],e⟩
 |y::B,pre,aG,m+1,hm=>by
  obtain⟨w,E,F,G⟩:=drop_cons n;have K:pre.length+(B.length+1)=5:=by have:=congrArg List.length aG;simpa [jj]using this.symm
  have d:((pre.length:Int)<((5:Nat):Int)):=af;have L:(0:Int)<=(pre.length:Int):=af;have t1:((pre.length:Int)).toNat=pre.length:=af;have he:(jj.map λy=>[aa.str y])[pre.length]? =D [aa.str y]:=by rw[aG];simp
  have hw:((pre++[y]).length:Int)=((pre.length+1:Nat):Int):=by simp
  have q:=Ew (H:=H) aB n x i B (pre++[y]) (by simp[aG]) m (by simp at hm;omega);rw[hw]at q;have z:(s.drop at_).length=s.length-at_:=by simp
  have u:IntKind.i64.wrap ((s.length:Int)-(at_:Int))=((s.length-at_:Nat):Int):=ER s.length at_ af af;have M:=ae.aS i;by_cases j:(2:Int)<=((s.length-at_:Nat):Int)
  ·have k:decide (2<=(s.drop at_).length)=true:=by rw[z];simp;omega
   have o:=qU (s:=s) (a:=at_) (b:=at_+2) af af;rw[Nat.add_sub_cancel_left]at o;cases h:((s.drop at_).take 2==y)with
   |true=>
    have A:(s.drop at_).take 2=y:=by simpa using h
    have p:(y==(s.drop at_).take 2)=true:=by rw[A];simp
    simp-implicitDefEqProofs(disch:=try exact al)only[kr,jd,kp,ko,jO,reduceAdd,reduceLeDiff,reduceIte,ax,d,decide_true,u,j,s5,o,i,he,t1,h];exact bb.2 ⟨by rw[gG,k,p];rw[A];rfl,rfl⟩
   |false=>
    have p:(y==(s.drop at_).take 2)=false:=by
     have:¬(s.drop at_).take 2=y:=by simpa using h
     simp;exactλe=>this e.symm
    simp-implicitDefEqProofs(disch:=try exact al)only[kr,jd,kp,ko,jO,reduceAdd,reduceLeDiff,reduceIte,ax,d,decide_true,u,j,s5,o,i,he,t1,h,hW];refine q.mono ?_;rintro v H' ⟨rfl,e⟩;exact⟨by simp only[gG,p,Bool.false_or],e⟩
  ·have k:decide (2<=(s.drop at_).length)=false:=by rw[z];simp;omega
   simp-implicitDefEqProofs(disch:=try exact al)only[kr,jd,kp,ko,jO,reduceAdd,reduceLeDiff,reduceIte,ax,d,decide_true,u,j,decide_false,hW];refine q.mono ?_;rintro v H' ⟨rfl,e⟩;exact⟨by simp only[k,Bool.false_and],e⟩
def L_{H:ae}{s:aJ}(aB:s.length<=1000000000000000000){at_:Nat}(d:at_<s.length):W (aC P az 68 [Y s,I J at_] H) λv H'=>v= Y (hc (s.drop at_))/\aO H H':=by
 refine cz (λ_=>J5 30) ?_;obtain⟨c,r,a⟩:∃c r,s.drop at_=c::r:=by
  cases h:s.drop at_ with
  |nil=>have:=drop_nil h;omega
  |cons c r=>exact⟨c,r,rfl⟩
 rw[jO];simp only[s6];rw[ko];refine(Ew (H:=H.push _) aB a af (ae.bC _ _) jj [] rfl 30 cp).mono ?_;rintro v H' ⟨rfl,rfl⟩;refine⟨?_,aO.push _ _⟩;rw[a];rfl
def CK{H:ae}{s:aJ}(aB:s.length<=1000000000000000000)(l:aa->aa->ae->O)(N:Nat)(Q:aa->ae->Prop):∀(rest:aJ) (at_ m:Nat),s.drop at_=rest->at_<=s.length->rest.length<m->
  (∀(k:Nat),(∀c' cU,rest=c'::cU->c'.toNat≠10->0<k)->at_+k<=s.length->(s.drop (at_+k)).length<=rest.length->k+c2 U (s.drop (at_+k))=c2 X rest->W (l (Y s) (I J ((at_+k:Nat):Int)) H) Q)->
  W (k4 (aC P az) N l m (Y s) (I J at_) H) Q
 |_,_,0,_,_,hm,_=>af
 |[],at_,m+1,h,n,hm,j=>by
  have:=drop_nil h;have a:¬((at_:Int)<(s.length:Int)):=af;simp-implicitDefEqProofs(disch:=try exact al)only[k4,gZ,oT,hO,reduceAdd,reduceLeDiff,reduceIte,ax,a,decide_false];exact j 0 (λ_ _ e=>by cases e) n (by simpa using congrArg List.length h) (by simp[h,c2])
 |c::r,at_,m+1,h,n,hm,j=>by
  obtain⟨p,q,y,z⟩:=drop_cons h;have a:((at_:Int)<(s.length:Int)):=af;have o:=jD p;cases d:((c.toNat:Int) != 10)with
  |false=>
   have i:c.toNat=10:=by
    have:(c.toNat:Int)=10:=by simpa using d
    omega
   simp-implicitDefEqProofs(disch:=try exact al)only[k4,gZ,oT,hO,reduceAdd,reduceLeDiff,reduceIte,ax,a,decide_true,o,d];refine j 0 (λ_ _ e x=>by cases e;exact absurd i x) n (by simp only[Nat.add_zero,h];omega) ?_;simp[h,c2,iB,i]
  |true=>
   have i:(c.toNat==10)=false:=by
    have:¬(c.toNat:Int)=10:=by simpa using d
    simp;omega
   simp-implicitDefEqProofs(disch:=try exact al)only[k4,gZ,oT,hO,reduceAdd,reduceLeDiff,reduceIte,ax,a,decide_true,o,d,hW];refine CK aB l N Q r (at_+1) m q af (by simp at hm;omega) (λk _ a u v=> ?_);have w:at_+1+k=at_+(k+1):=af;rw[w]at a u v ⊢;refine j (k+1) (λ_ _ _ _=>af) a (by simp only[List.length_cons];omega) ?_;simp only[c2,i,aT];omega
def tM{H:ae}{s:aJ}(aB:s.length<=1000000000000000000)(N:Nat)(T:s.length<N):∀(q:Nat) (rest:aJ) (at_ m:Nat),rest.length<=q->s.drop at_=rest->at_<=s.length->rest.length<m->
  W (hx (aC P az) N m (Y s) (I J at_) H) λv H'=>v= I J ((at_+c2 U rest:Nat):Int)/\H'=H
 |_,_,_,0,_,_,_,hm=>af
 |_,[],at_,m+1,_,h,Q,hm=>by
  have:=drop_nil h;have j:¬((at_:Int)<(s.length:Int)):=af;simp-implicitDefEqProofs(disch:=try exact al)only[hx,gZ,jM,hO,reduceAdd,reduceLeDiff,reduceIte,ax,j,decide_false];exact bb.2 ⟨by simp[c2],rfl⟩
 |0,c::r,at_,m+1,E,h,Q,hm=>by simp at E
 |q+1,c::r,at_,m+1,E,h,Q,hm=>by
  obtain⟨L,M,aj,z⟩:=drop_cons h;have j:((at_:Int)<(s.length:Int)):=af;have o:=jD L;simp only[List.length_cons]at E hm;have G:iB c=X->W (hx (aC P az) N m (Y s) (I J ((at_+1:Nat):Int)) H) λv H'=>v= I J ((at_+c2 U (c::r):Nat):Int)/\H'=H:=by
   intro R;refine(tM (H:=H) aB N T q r (at_+1) m af M af af).mono ?_;rintro v H' ⟨rfl,e⟩;have aa:at_+1+c2 U r=at_+c2 U (c::r):=by
    rw[c2,R,aY];omega
   exact⟨by rw[aa],e⟩
  have p:((c.toNat:Int)==32)=(c.toNat==32):=by rw[Bool.eq_iff_iff];simp;omega
  have x:((c.toNat:Int)==9)=(c.toNat==9):=by rw[Bool.eq_iff_iff];simp;omega
  have B:((c.toNat:Int)==10)=(c.toNat==10):=by rw[Bool.eq_iff_iff];simp;omega
  have K:((c.toNat:Int)==13)=(c.toNat==13):=by rw[Bool.eq_iff_iff];simp;omega
  cases i:c.toNat==32 with
  |true=>
   simp-implicitDefEqProofs(disch:=try exact al)only[hx,gZ,jM,hO,reduceAdd,reduceLeDiff,reduceIte,ax,j,decide_true,o,p,i,hW];exact G (by simp only[iB,i,Bool.true_or])
  |false=>
   cases l:c.toNat==9 with
   |true=>
    simp-implicitDefEqProofs(disch:=try exact al)only[hx,gZ,jM,hO,reduceAdd,reduceLeDiff,reduceIte,ax,j,decide_true,o,p,i,x,l,hW];exact G (by simp only[iB,l,Bool.true_or,Bool.or_true])
   |false=>
    cases n:c.toNat==10 with
    |true=>
     simp-implicitDefEqProofs(disch:=try exact al)only[hx,gZ,jM,hO,reduceAdd,reduceLeDiff,reduceIte,ax,j,decide_true,o,p,i,x,l,B,n,hW];exact G (by simp only[iB,n,Bool.true_or,Bool.or_true])
    |false=>
     cases u:c.toNat==13 with
     |true=>
      simp-implicitDefEqProofs(disch:=try exact al)only[hx,gZ,jM,hO,reduceAdd,reduceLeDiff,reduceIte,ax,j,decide_true,o,p,i,x,l,B,n,K,u,hW];exact G (by simp only[iB,u,Bool.or_true])
     |false=>
      have ad:iB c=false:=by simp only[iB,i,l,n,u,Bool.or_self]
      have S:IntKind.i64.wrap ((s.length:Int)-(at_:Int))=((s.length-at_:Nat):Int):=ER s.length at_ af af;have V:(c==47&&r.head?==D 47)=U->c2 U (c::r)=0:=λA=>by rw[c2,ad,aT,A,aT]
      by_cases O:(2:Int)<=((s.length-at_:Nat):Int)
      ·have F:=qU (s:=s) (a:=at_) (b:=at_+2) af af;rw[Nat.add_sub_cancel_left,h]at F;obtain⟨y,d,rfl⟩:∃y d,r=y::d:=by
        cases r with
        |nil=>simp at z;omega
        |cons y d=>exact⟨y,d,rfl⟩
       simp only[List.take_succ_cons,List.take_zero]at F;cases w:(([c,y]:aJ)==[47,47])with
       |true=>
        have ab:c=47/\y=47:=by simpa using w
        obtain⟨rfl,rfl⟩:=ab;simp-implicitDefEqProofs(disch:=try exact al)only[hx,gZ,jM,hO,reduceAdd,reduceLeDiff,reduceIte,ax,j,decide_true,o,p,i,x,l,B,n,K,u,S,O,s5,F,w];refine CK aB (hx (aC P az) N m) N _ (47::47::d) at_ N h Q (by simp only[List.length_cons]at z ⊢;omega) (λk ag ah ak ai=> ?_);have am:=ag 47 _ rfl cp;have hle:(s.drop (at_+k)).length<=q:=by
         simp only[List.length_drop,List.length_cons]at E z ⊢;omega
        refine(tM (H:=H) aB N T q (s.drop (at_+k)) (at_+k) m hle rfl ah (by simp only[List.length_drop,List.length_cons]at hm z ⊢;omega)).mono ?_;rintro v H' ⟨rfl,e⟩;have R:c2 U (47::47::d)=c2 X (47::47::d):=by
         have L:c2 U (47::47::d)=c2 X (47::d)+1:=rfl;have M:c2 X (47::47::d)=c2 X (47::d)+1:=rfl;rw[L,M]
        refine⟨?_,e⟩;rw[R,<-ai,Nat.add_assoc]
       |false=>
        have A:(c==47&&(y::d).head?==D 47)=false:=by
         have:¬(c=47/\y=47):=by simpa using w
         simpa using this
        simp-implicitDefEqProofs(disch:=try exact al)only[hx,gZ,jM,hO,reduceAdd,reduceLeDiff,reduceIte,ax,j,decide_true,o,p,i,x,l,B,n,K,u,S,O,s5,F,w];exact bb.2 ⟨by rw[V A,Nat.add_zero],rfl⟩
      ·have w:r=[]:=by
        cases r with
        |nil=>rfl
        |cons y d=>simp only[List.length_cons]at z;omega
       have A:(c==47&&r.head?==D 47)=false:=by rw[w];simp
       simp-implicitDefEqProofs(disch:=try exact al)only[hx,gZ,jM,hO,reduceAdd,reduceLeDiff,reduceIte,ax,j,decide_true,o,p,i,x,l,B,n,K,u,S,O,decide_false];exact bb.2 ⟨by rw[V A,Nat.add_zero],rfl⟩
def xV{H:ae}{s:aJ}(aB:s.length<=1000000000000000000){at_:Nat}(a:at_<=s.length):W (aC P az 38 [Y s,I J at_] H) λv H'=>v= I J ((at_+c2 U (s.drop at_):Nat):Int)/\H'=H:=by
 refine cz (λ_=>JI (s.length+1)) ?_;rw[hO];exact tM aB (s.length+1) af s.length (s.drop at_) at_ (s.length+1) (by simp) rfl a (by simp;omega)
