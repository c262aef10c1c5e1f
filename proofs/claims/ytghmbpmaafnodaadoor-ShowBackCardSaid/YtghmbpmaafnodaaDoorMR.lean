/-
  Texts of one proof, laid together: ShPa Re Rf Rg ShT V1 V2.
-/
import Derived.Test.YtghmbpmaafnodaaDoorMP
set_option linter.unusedVariables false
set_option linter.unusedSimpArgs false
set_option linter.defProp false
open Option renaming some→D,none→C
open Bool renaming true→X,false→U
open Go.bn.aa renaming int→I,str→Z,bool→Y
open Go.IntKind renaming i64→J
namespace Go.Proofs.YtghmbpmaafnodaaDoor
open Go.bn
open Nat (reduceAdd reduceLeDiff)
section
set_option maxRecDepth 100000
noncomputable section
def pF(G:aD)(N:Nat)(e h:aa)(bD q:aa)(H:af):O:=aO H (G 21 [bD] H) λm d=>j (fD .not m) λn=>a7 (D n) (bm d (ba P d 26 e (.agg [aa.aA,aa.aA,aa.aA])) λa=>j (cp bD) λo=>j (aJ P 59 o 3) λk=>j (ao P a 29 k) λl=>bm a (ba P a 29 h l) λc=>bif ((bp (ao P d 29 k) l&&(bp (ao P a 29 k) l&&X))&&X)then(j (ao P c 26 e) λr=>j (ao P c 29 h) λi=>D (.tuple [r,i],c))else C) (j (ao P d 26 q) λp=>bm d (ba P d 26 e p) λa=>bm a (ba P a 29 h (.agg [I J 0,I J 0])) λc=>j (ao P c 26 e) λr=>j (ao P c 29 h) λi=>D (.tuple [r,i],c))
def TN(G:aD)(N:Nat):∀ad H,bC P G N (o (o (o (o (o (o (bI Tryd.f9))))))) (bs Tryd.f9) [] (bs Tryd.f9) ad H=pF G N (ad 2) (ad 3) (ad 6) (ad 7) H:=by
 refine bZ (aL _) λad H=> ?_
 delta pF;kernel_rfl
def la(G:aD)(N:Nat)(l:aa->aa->aa->aa->af->O)(n o:aa)(bD e M:aa)(H:af):O:=a7 (D M) (aO H (G 24 [bD,I J 4] H) λaC k=>l n o bD e k) (aO H (G 23 [bD,Z [114,101,99,111,114,100]] H) λQ k=>a7 (D Q) (j (cp bD) λR=>j (aJ P 59 R 1) λS=>j (ao P k 3 S) λT=>j (au P .add 3 X T (I J 1)) λV=>j (cp bD) λW=>j (aJ P 59 W 1) λab=>bm k (ba P k 3 ab V) λh=>aO h (G 25 [bD] h) λad a=>j (aJ P 26 e 0) λs=>j (ao P a 22 s) λu=>ca a (cl P (a).next 22 1 [(0,ad)]) λae c=>aO c (df P c [22,22] u ae) λag d=>j (aJ P 26 e 0) λah=>bm d (ba P d 22 ah ag) λi=>bif ((bp (ao P h 22 s) u&&(bp (ao P a 22 s) u&&(bp (ao P c 22 s) u&&X)))&&X)then(l n o bD e i)else C) (aO k (G 23 [bD,Z [103,108,111,98,97,108]] k) λai h=>a7 (D ai) (j (cp bD) λaj=>j (aJ P 59 aj 1) λak=>j (ao P h 3 ak) λal=>j (au P .add 3 X al (I J 1)) λam=>j (cp bD) λan=>j (aJ P 59 an 1) λap=>bm h (ba P h 3 ap am) λa=>aO a (G 26 [bD] a) λaq c=>j (aJ P 26 e 1) λv=>j (ao P c 23 v) λw=>ca c (cl P (c).next 23 1 [(0,aq)]) λar d=>aO d (df P d [23,23] w ar) λav i=>j (aJ P 26 e 1) λaw=>bm i (ba P i 23 aw av) λm=>bif ((bp (ao P a 23 v) w&&(bp (ao P c 23 v) w&&(bp (ao P d 23 v) w&&X)))&&X)then(aO m (G 27 [bD,Z [59]] m) λaE x=>l n o bD e x)else C) (aO h (G 23 [bD,Z [102,117,110,99]] h) λax a=>a7 (D ax) (j (cp bD) λay=>j (aJ P 59 ay 1) λaz=>j (ao P a 3 az) λy=>j (au P .add 3 X y (I J 1)) λz=>j (cp bD) λA=>j (aJ P 59 A 1) λB=>bm a (ba P a 3 B z) λc=>aO c (G 28 [bD] c) λE d=>j (aJ P 26 e 2) λp=>j (ao P d 24 p) λq=>ca d (cl P (d).next 24 1 [(0,E)]) λF i=>aO i (df P i [24,24] q F) λK m=>j (aJ P 26 e 2) λL=>bm m (ba P m 24 L K) λx=>bif ((bp (ao P c 24 p) q&&(bp (ao P d 24 p) q&&(bp (ao P i 24 p) q&&X)))&&X)then(l n o bD e x)else C) (aO a (G 24 [bD,I J 2] a) λaB c=>l n o bD e c))))
def TO(G:aD)(N:Nat)(a:aa->aa->aa->aa->af->O):∀ad H,bC P G N (o (bd (bd (o (bd (bd (bd (o (o (o (o (o (bI Tryd.f9))))))))))))) (λad H=>a (ad 2) (ad 3) (ad 6) (ad 7) H) [(2,(λad H=>a (ad 2) (ad 3) (ad 6) (ad 7) H)),(1,(λad H=>a (ad 2) (ad 3) (ad 6) (ad 7) H)),(0,(λad H=>pF G N (ad 2) (ad 3) (ad 6) (ad 7) H))] (bs Tryd.f9) ad H=la G N a (ad 2) (ad 3) (ad 6) (ad 7) (ad 31) H:=by
 refine bZ (aL _) λad H=> ?_
 delta la;kernel_rfl
def xh(G:aD)(N:Nat)(l:aa->aa->aa->aa->af->O)(i k:aa)(bD a:aa)(H:af):O:=aO H (G 21 [bD] H) λc K=>aM c X K (cJ bD) λad o=>aM c X o (λq=>eQ o (G 22 [ad] o) q) λae T=>aM c X T (br (c0 P 61 ae 0)) λag V=>aM c X V (br (au P .neq 3 X ag (I J 0))) λah p=>j (cE c (D ah) (D (Y U))) λai=>a7 (D ai) (aO p (G 23 [bD,Z [114,101,99,111,114,100]] p) λd W=>aM d X W (br (aJ P 26 a 0)) λaj x=>aM d X x (qr (ao P x 22 aj)) λz y=>aM d X y (λq=>iM (cx P .empty .len [22] [z]) (cx P y .len [22] [z]) q) λak ab=>aM d X ab (br (au P .eql 3 X ak (I J 12))) λal m=>j (cE d (D al) (D (Y U))) λA=>a7 (D A) (la G N l i k bD a A m) (aO m (G 23 [bD,Z [103,108,111,98,97,108]] m) λe L=>aM e X L (br (aJ P 26 a 1)) λam s=>aM e X s (qr (ao P s 23 am)) λB u=>aM e X u (λq=>iM (cx P .empty .len [23] [B]) (cx P u .len [23] [B]) q) λan M=>aM e X M (br (au P .eql 3 X an (I J 8))) λap n=>j (cE e (D ap) (D (Y U))) λE=>a7 (D E) (la G N l i k bD a E n) (aO n (G 23 [bD,Z [102,117,110,99]] n) λh Q=>aM h X Q (br (aJ P 26 a 2)) λaq v=>aM h X v (qr (ao P v 24 aq)) λF w=>aM h X w (λq=>iM (cx P .empty .len [24] [F]) (cx P w .len [24] [F]) q) λar R=>aM h X R (br (au P .eql 3 X ar (I J 16))) λav S=>j (cE h (D av) (D (Y U))) λaw=>la G N l i k bD a aw S))) (pF G N i k bD a p)
def n6(G:aD)(N:Nat):Nat->aa->aa->aa->aa->af->O
 |0,_,_,_,_,_=>C
 |n+1,a,c,bD,d,H=>xh G N (n6 G N n) a c bD d H
def TM(G:aD)(N:Nat)(a:aa->aa->aa->aa->af->O):∀ad H,bC P G N (bd (bd (bd (o (o (o (o (o (bI Tryd.f9))))))))) (λad H=>a (ad 2) (ad 3) (ad 6) (ad 7) H) [(0,(λad H=>pF G N (ad 2) (ad 3) (ad 6) (ad 7) H))] (bs Tryd.f9) ad H=xh G N a (ad 2) (ad 3) (ad 6) (ad 7) H:=by
 refine bZ ((aX ah ((dx ah ((dx ah ((aX ah (TO G N a) (aL _))))))) (aL _))) λad H=> ?_
 delta xh;generalize pF G N=c;generalize la G N a=d;revert c d;refine id ?_;intro c d;kernel_rfl
def uL(G:aD)(N:Nat)(ag:aa)(H:af):O:=cX H [aa.aA,aa.aA,aa.aA] λi o=>cX o [I J 0,I J 0] λk l=>aO l (G 14 [ag] l) λn p=>j (h6 n 0) λs=>j (h6 n 1) λu=>cX p [I J 0,I J 0] λe m=>bm m (ba P m 29 e u) λa=>j (aJ P 29 e 0) λv=>j (ao P a 27 v) λw=>j (au P .neq 27 X w (I J 0)) λx=>a7 (D x) (bm a (ba P a 26 i (.agg [aa.aA,aa.aA,aa.aA])) λc=>j (ao P c 29 e) λh=>bm c (ba P c 29 k h) λd=>bif ((bp (ao P a 29 e) h&&(bp (ao P c 29 e) h&&X))&&X)then(j (ao P d 26 i) λr=>j (ao P d 29 k) λq=>D (.tuple [r,q],d))else C) (j (cS P 59 [(0,s)]) λy=>ca a (dR (a).next y) λz c=>cX c [aa.aA,aa.aA,aa.aA] λA d=>n6 G N N i k z A d)
def RX(N:Nat){ag:aa}{H:af}{r:aa×af}(h:uL (aI P aB) N ag H=D r):aI P aB 9 [ag] H=D r:=cZ N (S:=λG=>uL G N ag H) Tryd.func9 (λG=>eo ((aX ah ((aX ah ((aX ah ((aX ah ((aX ah ((aX ah (TN G N) ((dx ah ((eP (k:=λm ad H=>n6 G N m (ad 2) (ad 3) (ad 6) (ad 7) H) ah (λad H=>ah) (λm=>TM G N (n6 G N m)))))))) (aL _))) (aL _))) (aL _))) (aL _))) (aL _))) (by delta uL;generalize n6 G N N=a;revert a;refine id ?_;intro a;kernel_rfl)) h
def nN(G:aD)(N:Nat)(ag d e:aa)(H:af):O:=aO H (G 27 [ag,Z [125]] H) λi a=>j (ao P a 65 e) λh=>bm a (ba P a 65 d h) λc=>j (ao P c 65 d) λr=>D (r,c)
def Su(G:aD)(N:Nat):∀ad H,bC P G N (o (o (o (o (o (bI Tryd.f25)))))) (bs Tryd.f25) [] (bs Tryd.f25) ad H=nN G N (ad 0) (ad 2) (ad 3) H:=by
 refine bZ (aL _) λad H=> ?_
 delta nN;kernel_rfl
def wT(G:aD)(N:Nat)(x:aa->aa->aa->af->O)(ag o c:aa)(H:af):O:=aO H (G 21 [ag] H) λh y=>aM h X y (cJ ag) λbR m=>aM h X m (λq=>eQ m (G 23 [bR,Z [125]] m) q) λF A=>aM h X A (br (fD .not F)) λK n=>j (cE h (D K) (D (Y U))) λL=>a7 (D L) (aO n (G 22 [ag] n) λM B=>j (c0 P 61 M 0) λQ=>j (au P .eql 3 X Q (I J 1)) λe=>aM e X B (br (aJ P 65 c 1)) λR u=>aM e X u (qr (ao P u 23 R)) λw v=>aM e X v (λq=>iM (cx P .empty .len [23] [w]) (cx P v .len [23] [w]) q) λS E=>aM e X E (br (au P .eql 3 X S (I J 8))) λT d=>j (cE e (D T) (D (Y U))) λV=>a7 (D V) (aO d (G 24 [ag,I J 4] d) λah a=>nN G N ag o c a) (aO d (G 26 [ag] d) λW a=>j (aJ P 65 c 1) λi=>j (ao P a 23 i) λk=>ca a (cl P (a).next 23 1 [(0,W)]) λab l=>aO l (df P l [23,23] k ab) λad p=>j (aJ P 65 c 1) λae=>bm p (ba P p 23 ae ad) λs=>bif ((bp (ao P d 23 i) k&&(bp (ao P a 23 i) k&&(bp (ao P l 23 i) k&&X)))&&X)then(aO s (G 27 [ag,Z [59]] s) λai z=>x ag o c z)else C)) (nN G N ag o c n)
def pe(G:aD)(N:Nat):Nat->aa->aa->aa->af->O
 |0,_,_,_,_=>C
 |n+1,ag,a,c,H=>wT G N (pe G N n) ag a c H
def St(G:aD)(N:Nat)(c:aa->aa->aa->af->O):∀ad H,bC P G N (bd (bd (bd (o (o (o (o (bI Tryd.f25)))))))) (λad H=>c (ad 0) (ad 2) (ad 3) H) [(0,(λad H=>nN G N (ad 0) (ad 2) (ad 3) H))] (bs Tryd.f25) ad H=wT G N c (ad 0) (ad 2) (ad 3) H:=by
 refine bZ (aL _) λad H=> ?_
 delta wT;generalize nN G N=a;revert a;refine id ?_;intro a;kernel_rfl
def wS(G:aD)(N:Nat)(ag:aa)(H:af):O:=cX H [Z [],aa.aA,I J 0] λn c=>aO c (G 22 [ag] c) λo k=>j (c0 P 61 o 3) λbD=>j (cS P 65 [(2,bD)]) λp=>cX k [Z [],aa.aA,I J 0] λa d=>bm d (ba P d 65 a p) λe=>aO e (G 55 [ag] e) λq h=>j (aJ P 65 a 0) λm=>bm h (ba P h 9 m q) λi=>aO i (G 27 [ag,Z [123]] i) λs l=>pe G N N ag n a l
def Re(N:Nat){ag:aa}{H:af}{r:aa×af}(h:wS (aI P aB) N ag H=D r):aI P aB 25 [ag] H=D r:=cZ N (S:=λG=>wS G N ag H) Tryd.func25 (λG=>eo ((aX ah ((aX ah ((aX ah ((aX ah ((aX ah (Su G N) ((dx ah ((eP (k:=λm ad H=>pe G N m (ad 0) (ad 2) (ad 3) H) ah (λad H=>ah) (λm=>St G N (pe G N m)))))))) (aL _))) (aL _))) (aL _))) (aL _))) (by delta wS;generalize pe G N N=a;revert a;refine id ?_;intro a;kernel_rfl)) h
def wU(G:aD)(ag:aa)(H:af):O:=cX H [Z [],Z [],I J 0,I J 0] λo d=>aO d (G 22 [ag] d) λv p=>j (c0 P 61 v 3) λbD=>j (cS P 68 [(2,bD)]) λw=>cX p [Z [],Z [],I J 0,I J 0] λa h=>bm h (ba P h 68 a w) λi=>aO i (G 55 [ag] i) λx k=>j (aJ P 68 a 0) λq=>bm k (ba P k 9 q x) λl=>aO l (G 27 [ag,Z [58]] l) λy m=>aO m (G 53 [ag] m) λs n=>j (aJ P 68 a 1) λu=>bm n (ba P n 40 u s) λc=>j (ao P c 68 a) λbR=>bm c (ba P c 68 o bR) λe=>j (ao P e 68 o) λr=>D (r,e)
def Rf(N:Nat){ag:aa}{H:af}{r:aa×af}(h:wU (aI P aB) ag H=D r):aI P aB 26 [ag] H=D r:=cZ N (S:=λG=>wU G ag H) Tryd.func26 (λ_=>by delta wU;kernel_rfl) h
def qH(G:aD)(N:Nat)(ag e h:aa)(H:af):O:=aO H (G 56 [ag] H) λi c=>j (aJ P 73 h 4) λk=>bm c (ba P c 71 k i) λa=>j (ao P a 73 h) λl=>bm a (ba P a 73 e l) λd=>j (ao P d 73 e) λr=>D (r,d)
def Sx(G:aD)(N:Nat):∀ad H,bC P G N (o (o (o (o (o (o (o (bI Tryd.f28)))))))) (bs Tryd.f28) [] (bs Tryd.f28) ad H=qH G N (ad 0) (ad 2) (ad 3) H:=by
 refine bZ (aL _) λad H=> ?_
 delta qH;kernel_rfl
def mH(G:aD)(N:Nat)(ag k c:aa)(H:af):O:=aO H (G 27 [ag,Z [41]] H) λy d=>aO d (G 23 [ag,Z [58]] d) λm a=>a7 (D m) (j (cp ag) λn=>j (aJ P 59 n 1) λo=>j (ao P a 3 o) λp=>j (au P .add 3 X p (I J 1)) λq=>j (cp ag) λs=>j (aJ P 59 s 1) λu=>bm a (ba P a 3 u q) λe=>j (aJ P 73 c 2) λv=>bm e (ba P e 4 v (Y X)) λh=>aO h (G 53 [ag] h) λw i=>j (aJ P 73 c 3) λx=>bm i (ba P i 40 x w) λl=>qH G N ag k c l) (qH G N ag k c a)
def Sw(G:aD)(N:Nat):∀ad H,bC P G N (o (o (o (o (o (bI Tryd.f28)))))) (bs Tryd.f28) [] (bs Tryd.f28) ad H=mH G N (ad 0) (ad 2) (ad 3) H:=by
 refine bZ ((aX ah ((aX ah (Sx G N) (aL _))) (aL _))) λad H=> ?_
 delta mH;generalize qH G N=a;revert a;refine id ?_;intro a;kernel_rfl
def wW(G:aD)(N:Nat)(m:aa->aa->aa->af->O)(ag e a:aa)(H:af):O:=aO H (G 21 [ag] H) λi B=>aM i X B (cJ ag) λbR s=>aM i X s (λq=>eQ s (G 23 [bR,Z [41]] s) q) λM F=>aM i X F (br (fD .not M)) λQ u=>j (cE i (D Q) (D (Y U))) λR=>a7 (D R) (aO u (G 22 [ag] u) λS K=>j (c0 P 61 S 0) λT=>j (au P .eql 3 X T (I J 1)) λh=>aM h X K (br (aJ P 73 a 1)) λV y=>aM h X y (qr (ao P y 23 V)) λA z=>aM h X z (λq=>iM (cx P .empty .len [23] [A]) (cx P z .len [23] [A]) q) λW L=>aM h X L (br (au P .eql 3 X W (I J 6))) λab d=>j (cE h (D ab) (D (Y U))) λad=>a7 (D ad) (aO d (G 24 [ag,I J 4] d) λan c=>mH G N ag e a c) (aO d (G 26 [ag] d) λae c=>j (aJ P 73 a 1) λk=>j (ao P c 23 k) λl=>ca c (cl P (c).next 23 1 [(0,ae)]) λah n=>aO n (df P n [23,23] l ah) λai v=>j (aJ P 73 a 1) λaj=>bm v (ba P v 23 aj ai) λw=>bif ((bp (ao P d 23 k) l&&(bp (ao P c 23 k) l&&(bp (ao P n 23 k) l&&X)))&&X)then(aO w (G 23 [ag,Z [41]] w) λak o=>j (fD .not ak) λal=>a7 (D al) (aO o (G 27 [ag,Z [44]] o) λap x=>aO x (G 23 [ag,Z [41]] x) λam p=>a7 (D am) (aO p (G 24 [ag,I J 2] p) λaq E=>m ag e a E) (m ag e a p)) (m ag e a o))else C)) (mH G N ag e a u)
def mI(G:aD)(N:Nat):Nat->aa->aa->aa->af->O
 |0,_,_,_,_=>C
 |n+1,ag,a,c,H=>wW G N (mI G N n) ag a c H
def Sv(G:aD)(N:Nat)(c:aa->aa->aa->af->O):∀ad H,bC P G N (bd (bd (bd (o (o (o (o (bI Tryd.f28)))))))) (λad H=>c (ad 0) (ad 2) (ad 3) H) [(0,(λad H=>mH G N (ad 0) (ad 2) (ad 3) H))] (bs Tryd.f28) ad H=wW G N c (ad 0) (ad 2) (ad 3) H:=by
 refine bZ (aL _) λad H=> ?_
 delta wW;generalize mH G N=a;revert a;refine id ?_;intro a;kernel_rfl
def wV(G:aD)(N:Nat)(ag:aa)(H:af):O:=cX H [Z [],aa.aA,Y U,Z [],I J 0,aa.aA,I J 0] λn c=>aO c (G 22 [ag] c) λo k=>j (c0 P 61 o 3) λbD=>j (cS P 73 [(5,bD)]) λp=>cX k [Z [],aa.aA,Y U,Z [],I J 0,aa.aA,I J 0] λa d=>bm d (ba P d 73 a p) λe=>aO e (G 55 [ag] e) λq h=>j (aJ P 73 a 0) λm=>bm h (ba P h 9 m q) λi=>aO i (G 27 [ag,Z [40]] i) λs l=>mI G N N ag n a l
def Rh(N:Nat){ag:aa}{H:af}{r:aa×af}(h:wV (aI P aB) N ag H=D r):aI P aB 28 [ag] H=D r:=cZ N (S:=λG=>wV G N ag H) Tryd.func28 (λG=>eo ((aX ah ((aX ah ((aX ah ((aX ah ((aX ah (Sw G N) ((dx ah ((eP (k:=λm ad H=>mI G N m (ad 0) (ad 2) (ad 3) H) ah (λad H=>ah) (λm=>Sv G N (mI G N m)))))))) (aL _))) (aL _))) (aL _))) (aL _))) (by delta wV;generalize mI G N N=a;revert a;refine id ?_;intro a;kernel_rfl)) h
end
end
section
variable {H H':af}{r:Nat}{T:List Tok}{ax:aa}{s s':al}
def Ak(h:b6 H r T ax s):W (aI P aB 26 [.ptr r 0 0] H) λv H'=>v= .agg (c7 T s).1.cells/\cv r H H'/\b6 H' r T ax (c7 T s).2:=by
 refine cO (λ_=>Rf 0) ?_;have ap:=h.rd.lt;have c:=aU.push H (.row U 4 [[Z [],Z [],I J 0,I J 0]]);have K:=af.bY H (.row U 4 [[Z [],Z [],I J 0,I J 0]]);simp-implicitDefEqProofs(disch:=try exact ak)only[wU,bg,bG,List.length_cons,List.length_nil,Nat.zero_add,Nat.reduceAdd];refine aW (jt (h.rd.aR c) (h.aR c).bW) ?_;rintro _ H1 ⟨rfl,a⟩;refine⟨a.1,?_⟩;have ag:=a.1;simp only[af.ch]at ag;have F:=(h.aR c).aR a;have L:=a.get K;unfold c7 dd;generalize aj T s.at_=q;obtain⟨k,x,z,p⟩:=q;have j:=aU.push H1 (.row U 4 [[Z [],Z [],I J 0,I J p]]);have Q:=af.bY H1 (.row U 4 [[Z [],Z [],I J 0,I J p]])
 simp-implicitDefEqProofs(disch:=try exact ak)only[bg,bG,eF,ao,c2,ba,c2,Nat.reduceAdd,Nat.reduceLeDiff,reduceIte,aa.cells,c8,eu,ed,af.iE,Tok.v];refine aW (o8 (F.aR j)) ?_;rintro _ m ⟨rfl,m3,e⟩;refine⟨m3.1,?_⟩;have ah:=m3.1;simp only[af.ch]at ah;have M:=m3.get (j.get L) ae;have w:=m3.get Q ae;have ea:=af.a6 w;generalize bA T s=o at e ⊢;obtain⟨cC,fX⟩:=o;simp only at e ⊢;have V:=((((c.mut (· =r)).trans (a.mut _)).trans (j.mut _)).trans m3);have B:=V.db (l:=H1.next) (.inr ae) (.row U 4 [[Z cC,Z [],I J 0,I J p]]);have G:=h.mut B (show bX _ r ax fX by unfold bX;rw[af.get_set_other ae];exact e.rd)
 have N:(m.set H1.next (.row U 4 [[Z cC,Z [],I J 0,I J p]])).get H.next=D (.row U 4 [[Z [],Z [],I J 0,I J 0]]):=by rw[af.get_set_other ae];exact M
 have R:(m.set H1.next (.row U 4 [[Z cC,Z [],I J 0,I J p]])).get H1.next=D (.row U 4 [[Z cC,Z [],I J 0,I J p]]):=af.get_set_same ea
 simp-implicitDefEqProofs(disch:=try exact ak)only[bg,bG,eF,ao,c2,ba,c2,Nat.reduceAdd,Nat.reduceLeDiff,reduceIte,aa.cells,c8,eu,ed,w];refine aW (h0 G [58] (by simp)) ?_;rintro _ am ⟨rfl,m5,n⟩;refine⟨m5.1,?_⟩;have ai:=m5.1;simp only[af.dK]at ai;have O:=m5.get N ae;have S:=m5.get R ae;generalize bh T [58] fX=al at n ⊢;simp-implicitDefEqProofs(disch:=try exact ak)only[bg,bG];refine aW (uB n) ?_;rintro _ an ⟨rfl,m6,i⟩;refine⟨m6.1,?_⟩;have au:=m6.1;have u:=m6.get O ae;have A:=m6.get S ae;have aq:=af.a6 u;have ar:=af.a6 A;generalize cM T al=o at i ⊢;obtain⟨⟨y,d⟩,av⟩:=o;simp only at i ⊢;have ab:=(B.trans m5).trans m6
 have ad:=ab.db (l:=H1.next) (.inr ae) (.row U 4 [[Z cC,Z y,I J d,I J p]]);have E:=ad.db (l:=H.next) (.inr (bo _)) (.row U 4 [[Z cC,Z y,I J d,I J p]]);simp-implicitDefEqProofs(disch:=try exact ak)only[reduceAdd,reduceLeDiff,reduceIte,az,u,A];exact a_.2 ⟨rfl,E,h.mut E (by unfold bX;rw[af.get_set_other ae,af.get_set_other ae];exact i.rd)⟩
end
section
variable {H H' H1:af}{r:Nat}{T:List Tok}{ax:aa}{s s':al}
def b6.p_{s0:al}(h:b6 H1 r T ax s0)(m:jV r H1.next H1 H')(a:bX H' r ax s'):b6 H' r T ax s':=
 ⟨a,h.bW.a1 λl ro els e=>m.get e (by
  have:=af.a6 e;rintro(rfl|c)
  ·rw[h.rd]at e;simp only[aZ,cb.row.injEq]at e;omega
  ·omega)⟩
structure hj(H1 H:af)(r b c n2 esz:Nat)(T:List Tok)(ax:aa)(z:List aa)(x:aa)(rest:List aa)(l:List bB)(v:aa)(s:al):Prop where
 c1:b6 H r T ax s
 two:H.get b=some (.row false esz [z])
 cell:H.get c=some (.row false esz [x::v::rest])
 h7:du fv (bx n2) H l v
 m:jV r H1.next H1 H
 bO:r<H1.next
 b2:H1.next<=b
 kF:b<c
 cw:c<n2
 dN:n2<=H.next
variable {b c n2 esz:Nat}{z:List aa}{x:aa}{rest:List aa}{l:List bB}{v:aa}
def hj.mut(h:hj H1 H r b c n2 esz T ax z x rest l v s)(m:cv r H H')(c1:b6 H' r T ax s'):hj H1 H' r b c n2 esz T ax z x rest l v s':=by
 have bO:=h.bO;have b2:=h.b2;have cw:=h.cw;have dN:=h.dN;have kF:=h.kF;exact⟨c1,m.get h.two ae,m.get h.cell ae,h.h7.a1 (cK.mut m λk a=>by unfold bx at a;omega),h.m.trans m.vZ,bO,b2,kF,cw,by have:=m.1;omega⟩
def hj.add{s0:al}(u:b6 H1 r T ax s0)(h:hj H1 H r b c n2 esz T ax z x rest l v s)(w:l.length<=1000000000)(p:bB):
  ∃i H',df P (H.push (.row U 4 [p.cells])) [23,23] v (.aG H.next 0 1 4 (D 1))=D (i,H')/\H.next+1<=H'.next/\i.one=X/\H'.get c=D (.row U esz [x::v::rest])/\(H.push (.row U 4 [p.cells])).get c=D (.row U esz [x::v::rest])/\hj H1 (H'.set c (.row U esz [x::i::rest])) r b c n2 esz T ax z x rest (l++[p]) i s:=by
 have bO:=h.bO;have b2:=h.b2;have cw:=h.cw;have dN:=h.dN;have kF:=h.kF;obtain⟨i,H',a,n,q,d⟩:=h.h7.pm p (by unfold bx;omega) w;have gc:H'.get c=D (.row U esz [x::v::rest]):=by rw[d c ae (by unfold bx;omega)];exact h.cell
 have lc:=af.a6 gc;have o:jV r H1.next H1 (H'.set c (.row U esz [x::i::rest])):=h.m.trans ⟨by simp;omega,λk j ar=>by
  have y:k≠r:=λe=>ar (.inl e)
  have A:¬H1.next<=k:=λe=>ar (.inr e)
  rw[af.get_set_other ae,d k j (by unfold bx;omega)]⟩
 refine⟨i,H',a,q,n.one,gc,(aU.push _ _).get h.cell,?_,by rw[af.get_set_other ae,d b ae (by unfold bx;omega)];exact h.two,af.get_set_same lc,n.a1 λk x j g=>⟨j,by unfold bx at j;rw[af.get_set_other ae];exact g⟩,o,bO,b2,kF,cw,by simp;omega⟩;exact u.p_ o (by unfold bX;rw[af.get_set_other ae,d r ae (by unfold bx;omega)];exact h.c1.rd)
def Iu{N:Nat}{Q:aa->af->Prop}{cC:aC}{am:Int}{s0:al}(V:b6 H1 r T ax s0){l':List bB}
  (x:∀H v,hj H1 H r b c n2 3 T ax z (Z cC) [I J am] l' v s'->W (nN (aI P aB) N (.ptr r 0 0) (.ptr b 0 0) (.ptr c 0 0) H) Q):
  ∀(n m:Nat) (H:af) (s:al) (l:List bB) (v:aa),n<m->l.length+n<=1000000000->hj H1 H r b c n2 3 T ax z (Z cC) [I J am] l v s->gp T n l s=D (l',s')->W (pe (aI P aB) N m (.ptr r 0 0) (.ptr b 0 0) (.ptr c 0 0) H) Q
 |_,0,_,_,_,_,aD,_,_,_=>ae
 |0,m+1,_,_,_,_,_,_,_,a=>by cases a
 |n+1,m+1,H,s,l,v,aD,a2,h,a=>by
  rw[gp]at a;rw[pe];unfold wT;refine aW (mA h.c1.rd) ?_;rintro _ aY ⟨rfl,rfl⟩;refine⟨bo _,?_⟩;by_cases S:s.an=0
  ·have e:(s.an==0)=true:=by simpa using S
   simp-implicitDefEqProofs(disch:=try exact ak)only[bg,bG,e];refine hl (dP h.c1.rd h.c1.bW [125] (by simp)) ?_;rintro _ aZ ⟨rfl,L⟩;refine⟨L.1,?_⟩;have o:=h.mut (L.mut _) (h.c1.aR L);rw[e,Bool.true_and]at a;cases ai:aV T s [125]with
   |true=>
    rw[ai]at a;cases a;simp-implicitDefEqProofs(disch:=try exact ak)only[bg,bG,e,Bool.not_true];exact x _ _ o
   |false=>
    rw[ai,Bool.not_false,aS]at a;simp-implicitDefEqProofs(disch:=try exact ak)only[bg,bG,e,Bool.not_false];refine aW (jt o.c1.rd o.c1.bW) ?_;rintro _ k ⟨rfl,M⟩;refine⟨M.1,?_⟩;have d:=o.mut (M.mut _) (o.c1.aR M);have K:=λH'=>d.h7.nv H'
    have a3:=d.h7.rd;have y:=d.cell;have a4:=d.h7.one;have go:((aj T s.at_).kind==1&&l.length==8)=X->W (aO k (aI P aB 24 [.ptr r 0 0,I J 4] k) λa6 i=>nN (aI P aB) N (.ptr r 0 0) (.ptr b 0 0) (.ptr c 0 0) i) Q:=λhm=>by
     rw[hm,aS]at a;cases a;refine aW (lJ d.c1 4) ?_;rintro _ a0 ⟨rfl,m5,aK⟩;exact⟨m5.1,x _ _ (d.mut m5 aK)⟩
    have on:((aj T s.at_).kind==1&&l.length==8)=U->W (aO k (aI P aB 26 [.ptr r 0 0] k) λaQ i=>
      j (aJ P 65 (.ptr c 0 0) 1) λB=>j (ao P i 23 B) λE=>ca i (cl P (i).next 23 1 [(0,aQ)]) λaT F=>aO F (df P F [23,23] E aT) λaU ab=>j (aJ P 65 (.ptr c 0 0) 1) λaX=>bm ab (ba P ab 23 aX aU) λad=>
      bif ((bp (ao P k 23 B) E&&(bp (ao P i 23 B) E&&(bp (ao P F 23 B) E&&X)))&&X)then(aO ad (aI P aB 27 [.ptr r 0 0,Z [59]] ad) λa7 aw=>pe (aI P aB) N m (.ptr r 0 0) (.ptr b 0 0) (.ptr c 0 0) aw)else C) Q:=λhm=>by
     rw[hm,aN]at a;refine aW (Ak d.c1) ?_;rintro _ O ⟨rfl,m6,aL⟩;refine⟨m6.1,?_⟩;have w:=d.mut m6 aL;have ay:=w.cell;have aE:=w.h7.rd;generalize c7 T s=q at w a;obtain⟨p,a5⟩:=q;obtain⟨aP,ap,au,av,R,aq,aH,ag⟩:=w.add V ae p;have aF:=uS tY O.next (cs:=p.cells) rfl rfl
     have a1:(O.push (.row U 4 [p.cells])).next<=ap.next:=by simp only[af.ch];exact av
     have ah:=jX R;simp only[aa.cells]at ah;simp-implicitDefEqProofs(disch:=try exact ak)only[bg,bG,eF,ao,c2,ba,c2,Nat.reduceAdd,Nat.reduceLeDiff,reduceIte,aa.cells,c8,eu,ed,ah,ay,aF,au,fJ,aq,aH,R,aE,y];refine aW (h0 ag.c1 [59] (by simp)) ?_;rintro _ ar ⟨rfl,m8,aM⟩;refine⟨m8.1,?_⟩;exact Iu V x n m ar _ _ aP ae (by simp;omega) (ag.mut m8 aM) a
    cases u:(aj T s.at_).kind==1 with
    |true=>
     rw[u]at go on;cases A:l.length==8 with
     |true=>
      have G:((l.length:Int)==8)=true:=by
       have:l.length=8:=by simpa using A
       simp;omega
      rw[A]at go;simp-implicitDefEqProofs(disch:=try exact ak)only[reduceAdd,reduceLeDiff,reduceIte,az,Tok.v,y,K,u,G];exact go rfl
     |false=>
      have G:((l.length:Int)==8)=false:=by
       have:l.length≠8:=by simpa using A
       simp;omega
      rw[A]at on;simp-implicitDefEqProofs(disch:=try exact ak)only[reduceAdd,reduceLeDiff,reduceIte,az,Tok.v,y,K,u,G];exact on rfl
    |false=>
     rw[u]at on;simp-implicitDefEqProofs(disch:=try exact ak)only[reduceAdd,reduceLeDiff,reduceIte,az,Tok.v,y,K,u];exact on rfl
  ·have e:(s.an==0)=false:=by simpa using S
   rw[e]at a;cases a;simp-implicitDefEqProofs(disch:=try exact ak)only[bg,bG,e];exact x _ _ h
end
section
variable {H H' H1:af}{r:Nat}{T:List Tok}{ax:aa}{s s':al}
def jV.mt(m:jV r H.next H H'):cv r H H':=⟨m.1,λl a ar=>m.2 l a λe=>by
 rcases e with e|e
 ·exact ar e
 ·omega⟩
def Q0{n:Nat}(aw:n<=1000000000)(h:b6 H r T ax s){x:ep}(F:iG T n s=D (x,s')):W (aI P aB 25 [.ptr r 0 0] H) λv H'=>(∃cs,v= .agg cs/\hQ.V H' (bx H.next) x cs)/\cv r H H'/\b6 H' r T ax s':=by
 refine cO (λ_=>Re (n+1)) ?_;have av:=h.rd.lt;unfold iG at F;obtain⟨⟨l',O⟩,j,G⟩:=dc.1 F;simp only[aZ,cj]at G;obtain⟨rfl,rfl⟩:=G;have d:=aU.push H (.row U 3 [[Z [],.aA,I J 0]]);have ad:=af.bY H (.row U 3 [[Z [],.aA,I J 0]]);simp-implicitDefEqProofs(disch:=try exact ak)only[wS,bg,bG,List.length_cons,List.length_nil,Nat.zero_add,Nat.reduceAdd];refine aW (jt (h.rd.aR d) (h.aR d).bW) ?_;rintro _ H1 ⟨rfl,c⟩;refine⟨c.1,?_⟩;have az:=c.1;simp only[af.ch]at az;have Q:=(h.aR d).aR c;have ag:=c.get ad;generalize aj T s.at_=q;obtain⟨k,x,z,p⟩:=q;have u:=aU.push H1 (.row U 3 [[Z [],.aA,I J p]])
 have an:=af.bY H1 (.row U 3 [[Z [],.aA,I J p]]);simp-implicitDefEqProofs(disch:=try exact ak)only[bg,bG,eF,ao,c2,ba,c2,Nat.reduceAdd,Nat.reduceLeDiff,reduceIte,aa.cells,c8,eu,ed,af.iE,Tok.v];refine aW (o8 (Q.aR u)) ?_;rintro _ w ⟨rfl,m3,i⟩;refine⟨m3.1,?_⟩;have aC:=m3.1;simp only[af.ch]at aC;have ah:=m3.get (u.get ag) ae;have E:=m3.get an ae;have ea:=af.a6 E;generalize bA T s=o at i j ⊢;obtain⟨cC,fX⟩:=o;simp only at i j ⊢;have ay:=((((d.mut (· =r)).trans (c.mut _)).trans (u.mut _)).trans m3);have L:=ay.db (l:=H1.next) (.inr ae) (.row U 3 [[Z cC,.aA,I J p]]);have R:=h.mut L (show bX _ r ax fX by unfold bX;rw[af.get_set_other ae];exact i.rd)
 have ai:(w.set H1.next (.row U 3 [[Z cC,.aA,I J p]])).get H.next=D (.row U 3 [[Z [],.aA,I J 0]]):=by rw[af.get_set_other ae];exact ah
 have ap:(w.set H1.next (.row U 3 [[Z cC,.aA,I J p]])).get H1.next=D (.row U 3 [[Z cC,.aA,I J p]]):=af.get_set_same ea
 simp-implicitDefEqProofs(disch:=try exact ak)only[bg,bG,eF,ao,c2,ba,c2,Nat.reduceAdd,Nat.reduceLeDiff,reduceIte,aa.cells,c8,eu,ed,E];refine aW (h0 R [123] (by simp)) ?_;rintro _ e ⟨rfl,m5,S⟩;refine⟨m5.1,?_⟩;have aD:=m5.1;simp only[af.dK]at aD;have al:=m5.get ai ae;have aq:=m5.get ap ae;have h_:hj H e r H.next H1.next e.next 3 T ax [Z [],.aA,I J 0] (Z cC) [I J p] [] .aA (bh T [123] fX):=⟨S,al,aq,.nil,cv.vZ (L.trans m5),av,bo _,ae,ae,bo _⟩
 refine Iu h (s':=O) (l':=l') (λaE v A=> ?_) n (n+1) e _ [] .aA (Nat.lt_succ_self _) (by simpa using aw) h_ j;unfold nN;refine aW (h0 A.c1 [125] (by simp)) ?_;rintro _ y ⟨rfl,m7,mx⟩;refine⟨m7.1,?_⟩;have a:=A.mut m7 mx;have B:=a.two;have ar:=a.cell;have N:=a.h7.one;have aF:=af.a6 B;have au:=jX N;simp only[aa.cells]at au;have M:jV r H.next H (y.set H.next (.row U 3 [[Z cC,v,I J p]])):=a.m.db (.inr (bo _)) _
 have ab:=h.p_ M (s':=bh T [125] O) (by unfold bX;rw[af.get_set_other ae];exact a.c1.rd);have am:du fv (bx H.next) (y.set H.next (.row U 3 [[Z cC,v,I J p]])) l' v:=a.h7.a1 λk x K g=>⟨by unfold bx at K ⊢;omega,by have:=a.dN;unfold bx at K;rw[af.get_set_other ae];exact g⟩
 simp-implicitDefEqProofs(disch:=try exact ak)only[bg,bG,eF,ao,c2,ba,c2,Nat.reduceAdd,Nat.reduceLeDiff,reduceIte,aa.cells,c8,eu,ed,B,ar,N];exact a_.2 ⟨⟨_,rfl,v,rfl,am.aG⟩,M.mt,ab⟩
end
section
set_option maxRecDepth 100000
noncomputable section
def qT(G:aD)(N:Nat)(ag c:aa)(H:af):O:=aO H (G 79 [ag,Z [125]] H) λd a=>D (c,a)
def Th(G:aD)(N:Nat):∀ad H,bC P G N (o (o (o (o (bI Tryd.f56))))) (bs Tryd.f56) [] (bs Tryd.f56) ad H=qT G N (ad 0) (ad 3) H:=by
 refine bZ (aL _) λad H=> ?_
 delta qT;kernel_rfl
def w_(G:aD)(N:Nat)(k:aa->aa->af->O)(ag i:aa)(H:af):O:=aO H (G 21 [ag] H) λa l=>aM a X l (cJ ag) λw c=>aM a X c (λq=>eQ c (G 23 [w,Z [125]] c) q) λo m=>aM a X m (br (fD .not o)) λp d=>j (cE a (D p) (D (Y U))) λs=>a7 (D s) (aO d (G 78 [ag] d) λu e=>ca e (cl P (e).next 71 1 [(0,u)]) λbR h=>aO h (df P h [71,71] i bR) λv n=>k ag v n) (qT G N ag i d)
def qU(G:aD)(N:Nat):Nat->aa->aa->af->O
 |0,_,_,_=>C
 |n+1,ag,a,H=>w_ G N (qU G N n) ag a H
def Tg(G:aD)(N:Nat)(c:aa->aa->af->O):∀ad H,bC P G N (bd (bd (bd (o (o (o (bI Tryd.f56))))))) (λad H=>c (ad 0) (ad 3) H) [(0,(λad H=>qT G N (ad 0) (ad 3) H))] (bs Tryd.f56) ad H=w_ G N c (ad 0) (ad 3) H:=by
 refine bZ (aL _) λad H=> ?_
 delta w_;generalize qT G N=a;revert a;refine id ?_;intro a;kernel_rfl
def w9(G:aD)(N:Nat)(ag:aa)(H:af):O:=aO H (G 77 [ag,Z [123]] H) λc a=>qU G N N ag aa.aA a
def RB(N:Nat){ag:aa}{H:af}{r:aa×af}(h:w9 (aI P aB) N ag H=D r):aI P aB 56 [ag] H=D r:=cZ N (S:=λG=>w9 G N ag H) Tryd.func56 (λG=>eo ((aX ah ((aX ah ((aX ah ((aX ah (Th G N) ((dx ah ((eP (k:=λm ad H=>qU G N m (ad 0) (ad 3) H) ah (λad H=>ah) (λm=>Tg G N (qU G N m)))))))) (aL _))) (aL _))) (aL _))) (by delta w9;generalize qU G N N=a;revert a;refine id ?_;intro a;kernel_rfl)) h
def hY(G:aD)(c e:aa)(H:af):O:=j (ao P H 112 e) λd=>bm H (ba P H 112 c d) λa=>j (ao P a 112 c) λr=>D (r,a)
def Ty(G:aD)(N:Nat):∀ad H,bC P G N (o (o (o (o (bI Tryd.f78))))) (bs Tryd.f78) [] (bs Tryd.f78) ad H=hY G (ad 2) (ad 4) H:=by
 refine bZ (aL _) λad H=> ?_
 delta hY;kernel_rfl
def q0(G:aD)(ag c d:aa)(H:af):O:=aO H (G 27 [ag,Z [59]] H) λe a=>hY G c d a
def TA(G:aD)(N:Nat):∀ad H,bC P G N (o (o (o (o (o (o (bd (o (bd (bd (o (o (o (bI Tryd.f78)))))))))))))) (λad H=>hY G (ad 2) (ad 4) H) [(0,(λad H=>hY G (ad 2) (ad 4) H))] (bs Tryd.f78) ad H=q0 G (ad 0) (ad 2) (ad 4) H:=by
 refine bZ (aL _) λad H=> ?_
 delta q0;generalize hY G=a;revert a;refine id ?_;intro a;kernel_rfl
def q1(G:aD)(ag c d:aa)(H:af):O:=aO H (G 27 [ag,Z [59]] H) λe a=>hY G c d a
def TB(G:aD)(N:Nat):∀ad H,bC P G N (o (o (o (bd (o (o (o (o (o (o (o (bd (bd (o (o (o (bI Tryd.f78))))))))))))))))) (λad H=>hY G (ad 2) (ad 4) H) [(0,(λad H=>hY G (ad 2) (ad 4) H))] (bs Tryd.f78) ad H=q1 G (ad 0) (ad 2) (ad 4) H:=by
 refine bZ (aL _) λad H=> ?_
 delta q1;generalize hY G=a;revert a;refine id ?_;intro a;kernel_rfl
def n5(G:aD)(ag n:aa)(av a ah:aa)(H:af):O:=a7 (D ah) (j (cp ag) λai=>j (aJ P 59 ai 1) λaj=>j (ao P H 3 aj) λak=>j (au P .add 3 X ak (I J 1)) λal=>j (cp ag) λam=>j (aJ P 59 am 1) λan=>bm H (ba P H 3 an al) λo=>j (aJ P 112 a 0) λap=>bm o (ba P o 3 ap (I J 1)) λm=>aO m (G 55 [ag] m) λaq i=>j (aJ P 112 a 1) λar=>bm i (ba P i 9 ar aq) λc=>aO c (G 27 [ag,Z [58]] c) λbp e=>aO e (G 53 [ag] e) λaw d=>j (aJ P 112 a 2) λax=>bm d (ba P d 40 ax aw) λh=>j (aJ P 61 av 1) λay=>j (ao P h 9 ay) λaz=>j (au P .eql 9 X az (Z [108,101,116])) λaB=>a7 (D aB) (j (aJ P 112 a 0) λaC=>bm h (ba P h 3 aC (I J 2)) λk=>aO k (G 27 [ag,Z [61]] k) λbq l=>aO l (G 40 [ag,I J 0] l) λaE p=>ca p (cl P (p).next 41 1 [(0,aE)]) λaF q=>j (aJ P 112 a 3) λaH=>bm q (ba P q 41 aH aF) λs=>q0 G ag n a s) (q0 G ag n a h)) (aO H (G 23 [ag,Z [105,102]] H) λaI o=>a7 (D aI) (j (cp ag) λaK=>j (aJ P 59 aK 1) λaL=>j (ao P o 3 aL) λaM=>j (au P .add 3 X aM (I J 1)) λaN=>j (cp ag) λaP=>j (aJ P 59 aP 1) λaQ=>bm o (ba P o 3 aQ aN) λm=>j (aJ P 112 a 0) λaR=>bm m (ba P m 3 aR (I J 5)) λi=>aO i (G 40 [ag,I J 0] i) λaS c=>ca c (cl P (c).next 41 1 [(0,aS)]) λaT e=>j (aJ P 112 a 3) λaU=>bm e (ba P e 41 aU aT) λd=>aO d (G 56 [ag] d) λaV h=>j (aJ P 112 a 4) λaW=>bm h (ba P h 71 aW aV) λk=>aO k (G 23 [ag,Z [101,108,115,101]] k) λaX l=>a7 (D aX) (j (cp ag) λaY=>j (aJ P 59 aY 1) λaZ=>j (ao P l 3 aZ) λa0=>j (au P .add 3 X a0 (I J 1)) λa1=>j (cp ag) λa2=>j (aJ P 59 a2 1) λa3=>bm l (ba P l 3 a3 a1) λp=>aO p (G 56 [ag] p) λa4 q=>j (aJ P 112 a 5) λa5=>bm q (ba P q 71 a5 a4) λs=>hY G n a s) (hY G n a l)) (aO o (G 23 [ag,Z [119,104,105,108,101]] o) λa6 m=>a7 (D a6) (j (cp ag) λa8=>j (aJ P 59 a8 1) λa9=>j (ao P m 3 a9) λa_=>j (au P .add 3 X a_ (I J 1)) λbb=>j (cp ag) λbc=>j (aJ P 59 bc 1) λbd=>bm m (ba P m 3 bd bb) λi=>j (aJ P 112 a 0) λbe=>bm i (ba P i 3 be (I J 6)) λc=>aO c (G 40 [ag,I J 0] c) λbf e=>ca e (cl P (e).next 41 1 [(0,bf)]) λbg d=>j (aJ P 112 a 3) λbh=>bm d (ba P d 41 bh bg) λh=>aO h (G 56 [ag] h) λbi k=>j (aJ P 112 a 4) λbj=>bm k (ba P k 71 bj bi) λl=>hY G n a l) (aO m (G 23 [ag,Z [114,101,116,117,114,110]] m) λbk i=>a7 (D bk) (j (cp ag) λbl=>j (aJ P 59 bl 1) λbn=>j (ao P i 3 bn) λu=>j (au P .add 3 X u (I J 1)) λv=>j (cp ag) λw=>j (aJ P 59 w 1) λx=>bm i (ba P i 3 x v) λc=>j (aJ P 112 a 0) λy=>bm c (ba P c 3 y (I J 7)) λe=>aO e (G 23 [ag,Z [59]] e) λz d=>j (fD .not z) λA=>a7 (D A) (aO d (G 40 [ag,I J 0] d) λB h=>ca h (cl P (h).next 41 1 [(0,B)]) λF k=>j (aJ P 112 a 3) λK=>bm k (ba P k 41 K F) λl=>q1 G ag n a l) (q1 G ag n a d)) (aO i (G 23 [ag,Z [112,114,105,110,116]] i) λL c=>a7 (D L) (j (cp ag) λM=>j (aJ P 59 M 1) λN=>j (ao P c 3 N) λR=>j (au P .add 3 X R (I J 1)) λS=>j (cp ag) λT=>j (aJ P 59 T 1) λV=>bm c (ba P c 3 V S) λe=>j (aJ P 112 a 0) λW=>bm e (ba P e 3 W (I J 8)) λd=>aO d (G 40 [ag,I J 0] d) λab h=>ca h (cl P (h).next 41 1 [(0,ab)]) λad k=>j (aJ P 112 a 3) λae=>bm k (ba P k 41 ae ad) λl=>aO l (G 27 [ag,Z [59]] l) λbo p=>hY G n a p) (j (ao P c 112 a) λE=>aO c (G 89 [ag,E] c) λQ e=>bm e (ba P e 112 n Q) λd=>j (ao P d 112 n) λr=>D (r,d))))))
def Tz(G:aD)(N:Nat):∀ad H,bC P G N (o (bd (bd (o (o (o (bI Tryd.f78))))))) (λad H=>hY G (ad 2) (ad 4) H) [(0,(λad H=>hY G (ad 2) (ad 4) H))] (bs Tryd.f78) ad H=n5 G (ad 0) (ad 2) (ad 3) (ad 4) (ad 13) H:=by
 refine bZ ((d_ ah ((aX ah ((aX ah ((aX ah ((aX ah ((aX ah ((aX ah (TA G N) (aL _))) (aL _))) (aL _))) (aL _))) (aL _))) (aL _))) ((aX ah ((d_ ah (aL _) ((aX ah ((d_ ah (aL _) ((aX ah ((d_ ah ((aX ah ((aX ah ((aX ah (TB G N) (aL _))) (aL _))) (aL _))) (aL _))) (aL _))))) (aL _))))) (aL _))))) λad H=> ?_
 delta n5;generalize q1 G=a;generalize hY G=c;generalize q0 G=d;revert a c d;refine id ?_;intro a c d;kernel_rfl
def uI(G:aD)(ag:aa)(H:af):O:=cX H [I J 0,Z [],Z [],I J 0,aa.aA,aa.aA,aa.aA,I J 0,I J 0] λn e=>aO e (G 22 [ag] e) λbD o=>cX o [I J 0,Z [],I J 0,I J 0] λa h=>bm h (ba P h 61 a bD) λi=>j (aJ P 61 a 3) λs=>j (ao P i 3 s) λu=>j (cS P 112 [(6,u)]) λv=>cX i [I J 0,Z [],Z [],I J 0,aa.aA,aa.aA,aa.aA,I J 0,I J 0] λd k=>bm k (ba P k 112 d v) λl=>aO l (G 23 [ag,Z [118,97,114]] l) λm c=>a7 (D m) (n5 G ag n a d m c) (aO c (G 23 [ag,Z [108,101,116]] c) λq p=>n5 G ag n a d q p)
def RQ(N:Nat){ag:aa}{H:af}{r:aa×af}(h:uI (aI P aB) ag H=D r):aI P aB 78 [ag] H=D r:=cZ N (S:=λG=>uI G ag H) Tryd.func78 (λG=>eo ((aX ah ((aX ah ((aX ah ((aX ah (Ty G N) ((dx ah ((aX ah (Tz G N) (aL _))))))) (aL _))) (aL _))) (aL _))) (by delta uI;generalize n5 G=a;revert a;refine id ?_;intro a;kernel_rfl)) h
def pD(G:aD)(ag c:aa)(k l:aa)(H:af):O:=aO H (G 27 [ag,Z [61]] H) λT m=>aO m (G 40 [ag,I J 0] m) λs q=>cX q [I J 0,I J 0,Z [],Z [],I J 0,aa.aA,I J 0,I J 0,I J 0,I J 0,I J 0] λbD o=>bm o (ba P o 45 bD s) λp=>aO p (G 27 [ag,Z [59]] p) λV i=>j (aJ P 45 l 0) λu=>j (ao P i 3 u) λv=>j (au P .eql 3 X v (I J 4)) λw=>a7 (D w) (j (aJ P 112 c 0) λx=>bm i (ba P i 3 x (I J 3)) λa=>j (aJ P 45 l 2) λy=>j (ao P a 9 y) λz=>j (aJ P 112 c 1) λA=>bm a (ba P a 9 A z) λd=>j (ao P d 45 bD) λB=>ca d (cl P (d).next 41 1 [(0,B)]) λE e=>j (aJ P 112 c 3) λF=>bm e (ba P e 41 F E) λh=>j (ao P h 112 c) λK=>bm h (ba P h 112 k K) λn=>j (ao P n 112 k) λr=>D (r,n)) (j (aJ P 112 c 0) λL=>bm i (ba P i 3 L (I J 4)) λa=>j (ao P a 45 l) λM=>j (ao P a 45 bD) λN=>ca a (cl P (a).next 41 2 [(0,M),(1,N)]) λQ d=>j (aJ P 112 c 3) λR=>bm d (ba P d 41 R Q) λe=>j (ao P e 112 c) λS=>bm e (ba P e 112 k S) λh=>j (ao P h 112 k) λr=>D (r,h))
def TI(G:aD)(N:Nat):∀ad H,bC P G N (o (o (o (o (bI Tryd.f89))))) (bs Tryd.f89) [] (bs Tryd.f89) ad H=pD G (ad 0) (ad 3) (ad 4) (ad 5) H:=by
 refine bZ (aL _) λad H=> ?_
 delta pD;kernel_rfl
def sP(G:aD)(ag k:aa)(l a:aa)(H:af):O:=j (aJ P 45 a 0) λq=>j (ao P H 3 q) λs=>j (au P .neq 3 X s (I J 4)) λc=>aM c X H (br (aJ P 45 a 0)) λu h=>aM c X h (qr (ao P h 3 u)) λv m=>aM c X m (br (au P .neq 3 X v (I J 5))) λw n=>j (cE c (D w) (D (Y U))) λd=>aM d X n (br (aJ P 45 a 0)) λx i=>aM d X i (qr (ao P i 3 x)) λy o=>aM d X o (br (au P .neq 3 X y (I J 6))) λz e=>j (cE d (D z) (D (Y U))) λA=>a7 (D A) (aO e (G 24 [ag,I J 2] e) λB p=>pD G ag k l a p) (pD G ag k l a e)
def TH(G:aD)(N:Nat):∀ad H,bC P G N (o (o (o (bI Tryd.f89)))) (bs Tryd.f89) [] (bs Tryd.f89) ad H=sP G (ad 0) (ad 3) (ad 4) (ad 5) H:=by
 refine bZ ((aX ah (TI G N) (aL _))) λad H=> ?_
 delta sP;generalize pD G=a;revert a;refine id ?_;intro a;kernel_rfl
def pE(G:aD)(ag h d:aa)(H:af):O:=aO H (G 27 [ag,Z [59]] H) λi a=>j (ao P a 112 h) λe=>bm a (ba P a 112 d e) λc=>j (ao P c 112 d) λr=>D (r,c)
def TJ(G:aD)(N:Nat):∀ad H,bC P G N (o (o (o (bd (o (bd (o (o (bI Tryd.f89))))))))) (λad H=>sP G (ad 0) (ad 3) (ad 4) (ad 5) H) [] (bs Tryd.f89) ad H=pE G (ad 0) (ad 3) (ad 4) H:=by
 refine bZ (aL _) λad H=> ?_
 delta pE;kernel_rfl
def k_(G:aD)(ag av:aa)(H:af):O:=ca H (dR (H).next av) λa s=>cX s [I J 0,Z [],Z [],I J 0,aa.aA,aa.aA,aa.aA,I J 0,I J 0] λk m=>aO m (G 40 [ag,I J 0] m) λQ x=>cX x [I J 0,I J 0,Z [],Z [],I J 0,aa.aA,I J 0,I J 0,I J 0,I J 0,I J 0] λd n=>bm n (ba P n 45 d Q) λo=>aO o (G 23 [ag,Z [61]] o) λy h=>j (fD .not y) λz=>a7 (D z) (j (aJ P 112 a 0) λA=>bm h (ba P h 3 A (I J 9)) λi=>j (ao P i 45 d) λB=>ca i (cl P (i).next 41 1 [(0,B)]) λE p=>j (aJ P 112 a 3) λF=>bm p (ba P p 41 F E) λq=>aO q (G 23 [ag,Z [59]] q) λc u=>aM c X u (br (aJ P 45 d 0)) λK l=>aM c X l (qr (ao P l 3 K)) λL v=>aM c X v (br (au P .neq 3 X L (I J 7))) λM e=>j (cE c (D M) (D (Y U))) λN=>a7 (D N) (aO e (G 24 [ag,I J 2] e) λR w=>pE G ag a k w) (pE G ag a k e)) (sP G ag a k d h)
def RW(N:Nat){ag av:aa}{H:af}{r:aa×af}(h:k_ (aI P aB) ag av H=D r):aI P aB 89 [ag,av] H=D r:=cZ N (S:=λG=>k_ G ag av H) Tryd.func89 (λG=>eo ((aX ah ((aX ah ((aX ah (TH G N) ((aX ah ((d_ ah ((aX ah ((aX ah ((aX ah (TJ G N) (aL _))) (aL _))) (aL _))) (aL _))) (aL _))))) (aL _))) (aL _))) (by delta k_;generalize sP G=a;generalize pE G=c;revert a c;refine id ?_;intro a c;kernel_rfl)) h
end
end
def so{H:af}{r:Nat}{T:List Tok}{ax:aa}{s:al}(ay:T.length<=20000000)(c:b6 H r T ax s):W (aI P aB 40 [.ptr r 0 0,I J 0] H) (ew H r T ax (bJ T s).1 (bJ T s).2):=by
 obtain⟨p,q,-,a,-,-⟩:=Aj (T:=T) ae T.length s (vN _ _) 0 800000000 800000000 ae ae ae;have:bJ T s=q:=by simp only[bJ,a]
 rw[this];exact(BT 800000000 ae 800000000 (bo _)).expr c 0 ae q.1 q.2 a
def QY{H0 H:af}{r:Nat}{T:List Tok}{ax:aa}{s0 s:al}(c:b6 H0 r T ax s0)(j:cv r H0 H)(l:bX H r ax s){a:b0}{es:List aE}{cg:aa}(i:cz H (bx (H0.next+2)) es cg)(g3:H.get H0.next=D (.row U 9 [a.cells cg .aA .aA]))(g4:H.get (H0.next+1)=D (.row U 9 [[I J 0,Z [],Z [],I J 0,.aA,.aA,.aA,I J 0,I J 0]])):
  W (pE (aI P aB) (.ptr r 0 0) (.ptr H0.next 0 0) (.ptr (H0.next+1) 0 0) H) (gC H0 r T ax (.mk a es [] []) (bh T [59] s)):=by
 have n:=c.rd.lt;have qg:=af.a6 g4;have k:=i.eb;rw[pE];refine aW (h0 (c.mut j l) [59] (by simp)) ?_;rintro _ H1 ⟨rfl,m1,m⟩;refine⟨m1.1,?_⟩;have d:=m1.get g3 ae;have e:=m1.get g4 ae;have gi:=af.a6 e;simp only[b0.cells]at d;simp-implicitDefEqProofs(disch:=try exact ak)only[k_,reduceAdd,reduceLeDiff,reduceIte,az,e1,d,e,k];exact a_.2 (gC.fin (a:=a) c (j.trans m1) m.rd (i.a1 (dA.mut m1 (by unfold bx;omega) λ_ h=>h)) (dr.nil _ _) (dr.nil _ _) ae (lo:=H0.next+2) ae _)
def gC.two{H c b5:af}{r:Nat}{T:List Tok}{ax:aa}{s s':al}{a:b0}{es:List aE}{cg:aa}(i:b6 H r T ax s)(j:cv r H c)(d:bX c r ax s')(u:c.next<=b5.next)(e:∀l,l<c.next->l≠H.next->l≠H.next+1->b5.get l=c.get l)
  (o:dA c (bx (H.next+2)) b5 (bx H.next)->cz b5 (bx H.next) es cg):gC H r T ax (.mk a es [] []) s' (.agg (a.cells cg .aA .aA)) b5:=by
 have q:=i.rd.lt;have p:=j.1;have m:cv r H b5:=⟨ae,λl k n=>by rw[e l ae ae ae];exact j.2 l k n⟩;refine⟨m,i.mut m ?_,nj.2 ⟨cg,.aA,.aA,rfl,o λl ro els h g=>⟨by unfold bx at*;omega,?_⟩,dr.nil _ _,dr.nil _ _⟩⟩
 ·have:=d.lt;unfold bX at d ⊢;rw[e r ae ae ae];exact d
 ·have:=af.a6 g;unfold bx at h;rw[e l ae ae ae];exact g
def Q2{H0 H:af}{r:Nat}{T:List Tok}{ax:aa}{s0 s:al}(ay:T.length<=20000000)(d:b6 H0 r T ax s0)(B:cv r H0 H)(N:bX H r ax s){pos:Int}{a:bU}{ks:List aE}{kv:aa}{b:Nat}(he:cT H (λl=>H0.next+2<=l/\l<b) (.mk a ks) (.agg (a.cells kv)))(ab:H0.next+2<=b)
  (g3:H.get H0.next=D (.row U 9 [b0.cells {kind:=0,pos:=pos} .aA .aA .aA])) (g4:H.get (H0.next+1)=D (.row U 9 [[I J 0,Z [],Z [],I J 0,.aA,.aA,.aA,I J 0,I J 0]])) (g5:H.get b=D (.row U 11 [a.cells kv])):
  W (pD (aI P aB) (.ptr r 0 0) (.ptr H0.next 0 0) (.ptr (H0.next+1) 0 0) (.ptr b 0 0) H) (gC H0 r T ax (bf.at pos (bif a.kind==4 then .mk {kind:=3,name:=a.name} [(bJ T (bh T [61] s)).1] [] []else .mk {kind:=4} [.mk a ks,(bJ T (bh T [61] s)).1] [] [])) (bh T [59] (bJ T (bh T [61] s)).2)):=by
 have ad:=d.rd.lt;have ag:=af.a6 g5;rw[pD];refine aW (h0 (d.mut B N) [61] (by simp)) ?_;rintro _ H1 ⟨rfl,m1,m⟩;refine⟨m1.1,?_⟩;have aj:=m1.1;generalize bh T [61] s=s1 at m ⊢;simp-implicitDefEqProofs(disch:=try exact ak)only[k_,reduceAdd,reduceLeDiff,reduceIte,az,e1];refine aW (so ay m) ?_;rintro v q ⟨m2,n,j⟩;refine⟨m2.1,?_⟩;have n2:=m2.1;obtain⟨cs,rfl,i,bO⟩:=j.cells;generalize bJ T s1=aH at n j ⊢;simp-implicitDefEqProofs(disch:=try exact ak)only[k_,reduceAdd,reduceLeDiff,reduceIte,az,e1,i,bO,List.append_nil];have c:=aU.push q (.row U 11 [cs]);refine aW (h0 (n.aR c) [59] (by simp)) ?_;rintro _ F ⟨rfl,m4,y⟩
 refine⟨m4.1,?_⟩;have Q:=m4.1;simp only[af.ch]at Q;have h_:=n.rd.lt;have e:=m4.get (c.get (m2.get (m1.get g3 ae) ae)) ae;have o:=m4.get (c.get (m2.get (m1.get g4 ae) ae)) ae;have p:=m4.get (c.get (m2.get (m1.get g5 ae) ae)) ae;have z:=m4.get (af.bY q (.row U 11 [cs])) ae;have ah:=af.a6 e;have ai:=af.a6 o;have m24:=(c.mut (· =r)).trans m4;have E:=(((B.trans m1).trans m2).trans m24);have t1:List.take 11 cs=cs:=List.take_of_length_le ae;have x:=j.mut (ok':=bx (H0.next+2)) m24 (by unfold bx;have:=m.rd.lt;omega) λl h=>by unfold bx at*;omega
 have G:cT F (bx (H0.next+2)) (.mk a ks) (.agg (a.cells kv)):=he.mut ((m1.trans m2).trans m24) ae λl h=>by unfold bx;omega
 obtain⟨O,M,L⟩:=iO.1 he;have w:=L.eb;have K:O=kv:=by
  have:=congrArg (λv=>match v with|aa.agg cs=>cs[5]? |_=>C) M;simpa [bU.cells]using this.symm
 rw[K]at w;have R:(a.cells kv).all aa.one=true:=by simp only[bU.cells,List.all_cons,List.all_nil,hs,hS,w,Bool.and_self]
 simp only[b0.cells]at e;cases u:a.kind==4 with
 |true=>
  have ar:∀l,cl P l 41 1 [(0,.agg cs)]=D (.aG l 0 1 11 (D 1),.row U 11 [cs]):=λl=>lb l cs i bO
  simp only[bU.cells]at p;simp-implicitDefEqProofs(disch:=try exact ak)only[k_,reduceAdd,reduceLeDiff,reduceIte,az,e1,e,o,p,z,u,t1,ar,af.iE];refine a_.2 (gC.two (a:={kind:=3,name:=a.name,pos:=pos}) d E y.rd ?_ ?_ λk=>cz.qo (ro:=false) ?_ (by unfold bx;omega) (cT.a1 k _ _ x))
  ·simp only[af.ch,af.dK];omega
  ·intro l bb S V;simp-implicitDefEqProofs(disch:=try exact ak)only[ed]
  ·simp-implicitDefEqProofs(disch:=try exact ak)only[ed]
 |false=>
  have ar:∀l,cl P l 41 2 [(0,.agg (a.cells kv)),(1,.agg cs)]=D (.aG l 0 2 11 (D 2),.row U 11 [a.cells kv,cs]):=λl=>AI l (a.cells kv) cs rfl R i bO
  have A:=p;simp only[bU.cells]at A ar;simp-implicitDefEqProofs(disch:=try exact ak)only[k_,reduceAdd,reduceLeDiff,reduceIte,az,e1,e,o,A,z,u,t1,ar,af.iE];refine a_.2 (gC.two (a:={kind:=4,pos:=pos}) d E y.rd ?_ ?_ λk=>cz.A7 (ro:=false) ?_ (by unfold bx;omega) (cT.a1 k _ _ G) (cT.a1 k _ _ x))
  ·simp only[af.ch,af.dK];omega
  ·intro l bb S V;simp-implicitDefEqProofs(disch:=try exact ak)only[ed]
  ·simp-implicitDefEqProofs(disch:=try exact ak)only[ed,bU.cells]
def QZ{H:af}{r:Nat}{T:List Tok}{ax:aa}{s:al}(ay:T.length<=20000000)(w:b6 H r T ax s)(pos:Int):W (aI P aB 89 [.ptr r 0 0,.agg (b0.cells {kind:=0,pos:=pos} .aA .aA .aA)] H) (gC H r T ax ((fW T s).1.at pos) (fW T s).2):=by
 refine cO (λ_=>RW 0) ?_;have au:=w.rd.lt;have ai:∀l,dR l (.agg (b0.cells {kind:=0,pos:=pos} .aA .aA .aA))=D (.ptr l 0 0,.row U 9 [b0.cells {kind:=0,pos:=pos} .aA .aA .aA]):=λl=>hn l _ rfl
 have ah:=(aU.push H (.row U 9 [b0.cells {kind:=0,pos:=pos} .aA .aA .aA])).bT (.row U 9 [[I J 0,Z [],Z [],I J 0,.aA,.aA,.aA,I J 0,I J 0]]);simp-implicitDefEqProofs(disch:=try exact ak)only[k_,reduceAdd,reduceLeDiff,reduceIte,az,e1,ai];refine aW (so ay (w.aR ah)) ?_;rintro v j ⟨m2,B,he⟩;refine⟨m2.1,?_⟩;have n2:=m2.1;simp only[af.ch]at n2;unfold fW;obtain⟨cs,rfl,ad,bO⟩:=he.cells;have t1:List.take 11 cs=cs:=List.take_of_length_le ae;have g3:j.get H.next=D (.row U 9 [b0.cells {kind:=0,pos:=pos} .aA .aA .aA]):=m2.get (by simp-implicitDefEqProofs(disch:=try exact ak)only[ed]) ae
 have g4:=m2.get (af.bY (H.push (.row U 9 [b0.cells {kind:=0,pos:=pos} .aA .aA .aA])) (.row U 9 [[I J 0,Z [],Z [],I J 0,.aA,.aA,.aA,I J 0,I J 0]])) (by simp only[af.ch];omega);simp only[af.ch]at g4;generalize bJ T s=aH at B he ⊢;simp-implicitDefEqProofs(disch:=try exact ak)only[k_,reduceAdd,reduceLeDiff,reduceIte,az,e1,ad,bO,List.append_nil];have V:=aU.push j (.row U 11 [cs]);refine aW (dP (B.rd.aR V) (B.bW.aR V) [61] (by simp)) ?_;rintro _ c ⟨rfl,K⟩;refine⟨K.1,?_⟩;have am:=K.1;simp only[af.ch]at am;have x:=V.trans K;have F:=x.get g3;have G:=x.get g4;have p:=K.get (af.bY j (.row U 11 [cs]))
 have av:=af.a6 F;have aw:=af.a6 p;have m:cT c (λl=>H.next+2<=l/\l<j.next) aH.1 (.agg cs):=cT.a1 (dA.aR x λl h=>by simpa only[bx,af.ch]using h) _ _ he.below;have S:=((ah.mut (· =r)).trans m2).trans (x.mut _);have O:=B.aR x;cases aq:aV T aH.2 [61]with
 |true=>
  simp-implicitDefEqProofs(disch:=try exact ak)only[k_,reduceAdd,reduceLeDiff,reduceIte,az,e1,Bool.not_true];unfold mY;have fin:∀(e:af) (a:bU) (ks:List aE) (kv:aa),cT e (λl=>H.next+2<=l/\l<j.next) (.mk a ks) (.agg (a.cells kv))->cv r H e->bX e r ax (bif gn (.mk a ks)then bQ T 2 aH.2 else aH.2)->e.get H.next=D (.row U 9 [b0.cells {kind:=0,pos:=pos} .aA .aA .aA])->e.get (H.next+1)=D (.row U 9 [[I J 0,Z [],Z [],I J 0,.aA,.aA,.aA,I J 0,I J 0]])->e.get j.next=D (.row U 11 [a.cells kv])->
    W (pD (aI P aB) (.ptr r 0 0) (.ptr H.next 0 0) (.ptr (H.next+1) 0 0) (.ptr j.next 0 0) e) (gC H r T ax (bf.at pos (bif (aE.mk a ks).kind==4 then .mk {kind:=3,name:=(aE.mk a ks).name} [(bJ T (hp T (.mk a ks) aH.2)).1] [] []else .mk {kind:=4} [.mk a ks,(bJ T (hp T (.mk a ks) aH.2)).1] [] [])) (bh T [59] (bJ T (hp T (.mk a ks) aH.2)).2)):=
   λe a ks kv h m5 d5 y i d=>Q2 ay w m5 d5 h ae y i d
  rcases N:aH.1 with⟨a,ks⟩;rw[N]at m;obtain⟨kv,u,-⟩:=iO.1 m;simp only[aa.agg.injEq]at u;subst u;have q:=p;simp only[bU.cells]at q;simp-implicitDefEqProofs(disch:=try exact ak)only[sP,reduceAdd,reduceLeDiff,reduceIte,az,q];have M:=λ(h:gn (.mk a ks)=U)=>fin c a ks kv m S (by rw[h];exact O.rd) F G p
  cases i:(a.kind != 4)with
  |false=>
   simp-implicitDefEqProofs(disch:=try exact ak)only[reduceAdd,reduceLeDiff,reduceIte,az,q];exact M (by simp only[gn,aE.kind,i,Bool.false_and])
  |true=>
   cases d:(a.kind != 5)with
   |false=>
    simp-implicitDefEqProofs(disch:=try exact ak)only[reduceAdd,reduceLeDiff,reduceIte,az,q,d];exact M (by simp only[gn,aE.kind,i,d,Bool.false_and,Bool.and_false])
   |true=>
    cases k:(a.kind != 6)with
    |false=>
     simp-implicitDefEqProofs(disch:=try exact ak)only[reduceAdd,reduceLeDiff,reduceIte,az,q,d,k];exact M (by simp only[gn,aE.kind,i,d,k,Bool.and_false])
    |true=>
     simp-implicitDefEqProofs(disch:=try exact ak)only[reduceAdd,reduceLeDiff,reduceIte,az,q,d,k];refine aW (lJ O 2) ?_;rintro _ e ⟨rfl,m5,E⟩;refine⟨m5.1,?_⟩;exact fin e a ks kv (m.mut m5 ae λ_ h=>h) (S.trans m5) (by rw[show gn (.mk a ks)=X by simp only[gn,aE.kind,i,d,k,Bool.and_self]];exact E.rd) (m5.get F ae) (m5.get G ae) (m5.get p ae)
 |false=>
  have ar:∀l,cl P l 41 1 [(0,.agg cs)]=D (.aG l 0 1 11 (D 1),.row U 11 [cs]):=λl=>lb l cs ad bO
  have ag:=F;simp only[b0.cells]at ag;simp-implicitDefEqProofs(disch:=try exact ak)only[k_,reduceAdd,reduceLeDiff,reduceIte,az,e1,Bool.not_false,ag,G,p,t1,ar,af.iE];have z:∀l,l<c.next->l≠H.next->((c.set H.next (.row U 9 [b0.cells {kind:=9,pos:=pos} (.aG c.next 0 1 11 (D 1)) .aA .aA])).push (.row U 11 [cs])).get l=c.get l:=λl an ao=>by simp-implicitDefEqProofs(disch:=try exact ak)only[ed]
  have m5:cv r H ((c.set H.next (.row U 9 [b0.cells {kind:=9,pos:=pos} (.aG c.next 0 1 11 (D 1)) .aA .aA])).push (.row U 11 [cs])):=(S.db (.inr (bo _)) _).bT _;have d5:bX ((c.set H.next (.row U 9 [b0.cells {kind:=9,pos:=pos} (.aG c.next 0 1 11 (D 1)) .aA .aA])).push (.row U 11 [cs])) r ax aH.2:=by
   have h:=O.rd;have:=h.lt;unfold bX at h ⊢;rw[z r ae ae];exact h
  have R:cz ((c.set H.next (.row U 9 [b0.cells {kind:=9,pos:=pos} (.aG c.next 0 1 11 (D 1)) .aA .aA])).push (.row U 11 [cs])) (bx (H.next+2)) [aH.1] (.aG c.next 0 1 11 (D 1)):=
   cz.qo (ro:=false) (by simp-implicitDefEqProofs(disch:=try exact ak)only[ed]) (by unfold bx;omega) (cT.a1 (λl ro els h g=>⟨by unfold bx;omega,by rw[z l ae ae];exact g⟩) _ _ m)
  have y:((c.set H.next (.row U 9 [b0.cells {kind:=9,pos:=pos} (.aG c.next 0 1 11 (D 1)) .aA .aA])).push (.row U 11 [cs])).get H.next=D (.row U 9 [b0.cells {kind:=9,pos:=pos} (.aG c.next 0 1 11 (D 1)) .aA .aA]):=by simp-implicitDefEqProofs(disch:=try exact ak)only[ed]
  have i:=(z (H.next+1) ae ae).trans G;have d:=(z j.next ae ae).trans p;simp only[b0.cells]at m5 d5 R y i d;generalize (c.set H.next (.row U 9 [[aa.int J 9,Z [],Z [],I J 0,.aG c.next 0 1 11 (D 1),.aA,.aA,I J pos,I J 0]])).push (.row U 11 [cs])=e at m5 d5 R y i d ⊢;have E:=w.mut m5 d5;refine aW (dP d5 E.bW [59] (by simp)) ?_;rintro _ L ⟨rfl,n⟩;refine⟨n.1,?_⟩;have fin:∀(o:af) (ab:al),cv r L o->bX o r ax ab->W (pE (aI P aB) (.ptr r 0 0) (.ptr H.next 0 0) (.ptr (H.next+1) 0 0) o) (gC H r T ax (.mk {kind:=9,pos:=pos} [aH.1] [] []) (bh T [59] ab)):=λo ab m7 d7=>
   QY w ((m5.trans (n.mut _)).trans m7) d7 (R.a1 (dA.mut ((n.mut _).trans m7) (by unfold bx;omega) λ_ h=>h)) (m7.get (n.get y) ae) (m7.get (n.get i) ae)
  have Q:=E.aR n;cases ap:aV T aH.2 [59]with
  |false=>
   simp-implicitDefEqProofs(disch:=try exact ak)only[reduceAdd,reduceLeDiff,reduceIte,az];simp only[Bool.false_and,aN];exact fin L _ (dp.refl _ _) Q.rd
  |true=>
   have k:=n.get d;rcases N:aH.1 with⟨a,ks⟩;rw[N]at m fin;obtain⟨kv,u,-⟩:=iO.1 m;simp only[aa.agg.injEq]at u;subst u;simp only[bU.cells]at k;cases A:(a.kind != 7)with
   |false=>
    simp-implicitDefEqProofs(disch:=try exact ak)only[reduceAdd,reduceLeDiff,reduceIte,az,k,A];simp only[aE.kind,A,Bool.and_false,aN];exact fin L _ (dp.refl _ _) Q.rd
   |true=>
    simp-implicitDefEqProofs(disch:=try exact ak)only[reduceAdd,reduceLeDiff,reduceIte,az,k,A];simp only[aE.kind,A,Bool.and_self,aS];refine aW (lJ Q 2) ?_;rintro _ o ⟨rfl,m7,aj⟩;refine⟨m7.1,?_⟩;exact fin o _ m7 aj.rd
def vb(n:Nat):Prop:=∀{H:af} {r:Nat} {T:List Tok} {ax:aa} {s:al},T.length<=20000000->b6 H r T ax s->∀(e:bf) (s':al),hb T n s=D (e,s')->W (aI P aB 78 [.ptr r 0 0] H) (gC H r T ax e s')
def u4(n:Nat):Prop:=∀{H:af} {r:Nat} {T:List Tok} {ax:aa} {s:al},T.length<=20000000->b6 H r T ax s->∀(l:List bf) (s':al),ej T n s=D (l,s')->W (aI P aB 56 [.ptr r 0 0] H) λv H'=>cv r H H'/\b6 H' r T ax s'/\dr H' (bx H.next) l v
def H_{M:Nat}{H0 H:af}{r:Nat}{T:List Tok}{ax:aa}{s0 s:al}(a:b6 H0 r T ax s0)(c:cv r H0 H)(d:bX H r ax s){l:List bf}{v:aa}(e:dr H (bx H0.next) l v):
  W (qT (aI P aB) M (.ptr r 0 0) v H) λj H'=>cv r H0 H'/\b6 H' r T ax (dh T [125] s)/\dr H' (bx H0.next) l j:=by
 have k:=a.rd.lt;rw[qT];refine aW (sk (a.mut c d) [125] (by simp)) ?_;rintro _ H1 ⟨rfl,m1,i⟩;refine⟨m1.1,?_⟩;exact a_.2 ⟨c.trans m1,i,e.a1 (eS.mut m1 (by unfold bx;omega) λ_ h=>h)⟩
def Ix{N M:Nat}(E:∀k,k<N->vb k){H0:af}{r:Nat}{T:List Tok}{ax:aa}{s0:al}(ay:T.length<=20000000)(j:b6 H0 r T ax s0):
  ∀(n m:Nat),n<=N->n<m->∀(H:af) (s:al) (l:List bf) (v:aa),cv r H0 H->bX H r ax s->l.length+n<=1000000000->nf H0.next H l v->∀(l':List bf) (s':al),fH T n l s=D (l',s')->
   W (qU (aI P aB) M m (.ptr r 0 0) v H) λx H'=>cv r H0 H'/\b6 H' r T ax (dh T [125] s')/\dr H' (bx H0.next) l' x
 |0,m,y,hm,H,s,l,v,d,i,hlen,o,l',s',h=>by simp[fH]at h
 |n+1,0,y,hm,H,s,l,v,d,i,hlen,o,l',s',h=>ae
 |n+1,m+1,y,hm,H,s,l,v,d,i,hlen,o,l',s',h=>by
  have B:=j.rd.lt;have hle:=d.1;have u:=j.mut d i;simp only[fH]at h;simp only[qU];rw[w_];refine aW (mA i) ?_;rintro _ H1 ⟨rfl,rfl⟩;refine⟨bo _,?_⟩;by_cases z:s.an=0
  ·have a:(s.an==0)=true:=by simp[z]
   simp-implicitDefEqProofs(disch:=try exact ak)only[reduceAdd,reduceLeDiff,reduceIte,az,a];refine hl (dP i u.bW [125] (by simp)) ?_;rintro _ aj ⟨rfl,e⟩;refine⟨e.1,?_⟩;have q:=o.mut (e.mut (· =r)) B;cases A:aV T s [125]with
   |true=>
    simp only[a,A,Bool.not_true,Bool.and_false,aN,aZ,cj]at h;obtain⟨rfl,rfl⟩:=h;simp-implicitDefEqProofs(disch:=try exact ak)only[reduceAdd,reduceLeDiff,reduceIte,az,a,Bool.not_true,Bool.not_false];exact H_ j (d.trans (e.mut _)) (u.aR e).rd q.Jq
   |false=>
    simp only[a,A,Bool.not_false,Bool.and_self,aS,dc]at h;obtain⟨⟨aq,s1⟩,K,O⟩:=h;simp-implicitDefEqProofs(disch:=try exact ak)only[reduceAdd,reduceLeDiff,reduceIte,az,a,Bool.not_true,Bool.not_false];refine aW (E n ae ay (u.aR e) aq s1 K) ?_;rintro w am ⟨m3,ag,he⟩;refine⟨m3.1,?_⟩;obtain⟨cs,rfl,G,bO⟩:=he.cells;have S:=q.mut m3 B;have ap:=m3.1;have n2:=e.1;obtain⟨x,H',Q,R,F,ao⟩:=S.app he ae (λL k c p=>by
     rcases q with⟨bb,_⟩|⟨L',els,bb,ai,_⟩
     ·rw[bb]at p;cases p
     ·rw[bb]at p;cases p;exact af.a6 ai) ae ae
    have ar:=λl=>Up l cs G bO
    simp-implicitDefEqProofs(disch:=try exact ak)only[reduceAdd,reduceLeDiff,reduceIte,az,ar,Q,fJ];have ah:cv r H0 H':=⟨by have:=d.1;omega,λk V ab=>by
     rw[F.2 k ae ae];exact((d.trans (e.mut _)).trans m3).2 k V ab⟩
    have ad:bX H' r ax s1:=F.get ag.rd ae;exact Ix E ay j n m ae ae H' s1 (l++[aq]) x ah ad (by simp only[List.length_append,List.length_cons,List.length_nil];omega) R l' s' O
  ·have a:(s.an==0)=false:=by simpa using z
   simp only[a,Bool.false_and,aN,aZ,cj]at h;obtain⟨rfl,rfl⟩:=h;simp-implicitDefEqProofs(disch:=try exact ak)only[reduceAdd,reduceLeDiff,reduceIte,az,a,Bool.not_true];exact H_ j d i o.Jq
def Qt{n:Nat}(e:n<=1000000000)(j:∀k,k<n->vb k):u4 (n+1):=by
 intro H r T ax s ay c l s' h;refine cO (λ_=>RB (n+1)) ?_;simp only[ej,dc]at h;obtain⟨⟨m,s1⟩,d,a⟩:=h;simp only[aZ,cj]at a;obtain⟨rfl,rfl⟩:=a;rw[w9];refine aW (sq c [123] (by simp)) ?_;rintro _ H1 ⟨rfl,m1,i⟩;refine⟨m1.1,?_⟩;exact Ix j ay c n (n+1) (bo _) ae H1 _ [] .aA m1 i.rd (by simpa using e) (.inl ⟨rfl,rfl⟩) m s1 d
structure f_(H0 H:af)(r b3 cY:Nat)(ax:aa)(t:Tok)(s:al)(c:List aa):Prop where
 m:cv r H0 H
 rd:bX H r ax s
 g2:H.get H0.next=some (.row false 9 [[.int .i64 0,.str [],.str [],.int .i64 0,.aA,.aA,.aA,.int .i64 0,.int .i64 0]])
 g3:H.get b3=some (.row false 4 [[.int .i64 t.kind,.str t.text,.int .i64 t.n,.int .i64 t.pos]])
 g4:H.get cY=some (.row false 9 [c])
 ea:H0.next<b3
 gi:b3<cY
def f_.mut{H0 H H':af}{r b3 cY:Nat}{ax:aa}{t:Tok}{s s':al}{c:List aa}(h:f_ H0 H r b3 cY ax t s c)(d:r<H0.next)(m:cv r H H')(a:bX H' r ax s'):f_ H0 H' r b3 cY ax t s' c:=
 ⟨h.m.trans m,a,m.get h.g2 ae,m.get h.g3 (by have:=h.ea;omega),m.get h.g4 (by have:=h.ea;have:=h.gi;omega),h.ea,h.gi⟩
def f_.set{H0 H:af}{r b3 cY:Nat}{ax:aa}{t:Tok}{s:al}{c:List aa}(h:f_ H0 H r b3 cY ax t s c)(e:r<H0.next)(c':List aa):f_ H0 (H.set cY (.row U 9 [c'])) r b3 cY ax t s c':=by
 have a:=h.ea;have d:=h.gi;refine⟨h.m.db (.inr ae) _,?_,?_,?_,af.get_set_same (af.a6 h.g4),a,d⟩
 ·have:=h.rd;unfold bX at this ⊢;rw[af.get_set_other ae];exact this
 ·rw[af.get_set_other ae];exact h.g2
 ·rw[af.get_set_other ae];exact h.g3
def f_.push{H0 H:af}{r b3 cY:Nat}{ax:aa}{t:Tok}{s:al}{c:List aa}(h:f_ H0 H r b3 cY ax t s c)(d:r<H0.next)(a:cb):f_ H0 (H.push a) r b3 cY ax t s c:=
 h.mut d ((aU.push H a).mut _) (h.rd.aR (aU.push H a))
section
variable {H0 H:af}{r b3 cY:Nat}{T:List Tok}{ax:aa}{s0 s:al}{t:Tok}
def sr(k:b6 H0 r T ax s0){a:b0}{es:List aE}{c d:List bf}{cg bv e:aa}(b:f_ H0 H r b3 cY ax t s (a.cells cg bv e))(h:cz H (bx (cY+1)) es cg)(i:dr H (bx (cY+1)) c bv)(j:dr H (bx (cY+1)) d e):
  W (hY (aI P aB) (.ptr H0.next 0 0) (.ptr cY 0 0) H) (gC H0 r T ax (.mk a es c d) s):=by
 have bO:=h.eb;have b2:=i.eb;have cw:=j.eb;have g2:=b.g2;have g3:=b.g4;have l:=af.a6 g2;have n:=b.ea;have o:=b.gi;simp only[b0.cells]at g3;simp-implicitDefEqProofs(disch:=try exact ak)only[hY,reduceAdd,reduceLeDiff,reduceIte,az,e1,g2,g3,bO,b2,cw];exact a_.2 (gC.fin (a:=a) k b.m b.rd h i j (bo _) ae _)
def f_.expr(a:r<H0.next){e:aE}{cs c c':List aa}{L:Nat}(b:f_ H0 H r b3 cY ax t s c)(he:cT H (bx (cY+1)) e (.agg cs))(d:L=H.next):f_ H0 ((H.set cY (.row U 9 [c'])).push (.row U 11 [cs])) r b3 cY ax t s c'/\cz ((H.set cY (.row U 9 [c'])).push (.row U 11 [cs])) (bx (cY+1)) [e] (.aG L 0 1 11 (D 1)):=by
 subst d;have i:=af.a6 b.g4;refine⟨(b.set a c').push a _,cz.qo (ro:=false) ?_ (by unfold bx;omega) (cT.a1 ?_ e _ he)⟩
 ·exact af.bY (H.set cY (.row U 9 [c'])) _
 ·intro l ro els h g;refine⟨h,?_⟩;unfold bx at h;exact(aU.push _ _).get (by rw[af.get_set_other ae];exact g)
def Ii(c:b6 H0 r T ax s0){a:b0}{es:List aE}{cg:aa}(b:f_ H0 H r b3 cY ax t s (a.cells cg .aA .aA))(d:cz H (bx (cY+1)) es cg):
  W (q0 (aI P aB) (.ptr r 0 0) (.ptr H0.next 0 0) (.ptr cY 0 0) H) (gC H0 r T ax (.mk a es [] []) (bh T [59] s)):=by
 have e:=c.rd.lt;have j:=b.ea;have k:=b.gi;rw[q0];refine aW (h0 (c.mut b.m b.rd) [59] (by simp)) ?_;rintro _ H1 ⟨rfl,m1,i⟩;refine⟨m1.1,?_⟩;exact sr c (b.mut e m1 i.rd) (d.a1 (dA.mut m1 (by unfold bx;omega) λ_ h=>h)) (dr.nil _ _) (dr.nil _ _)
def IH(c:b6 H0 r T ax s0){a:b0}{es:List aE}{cg:aa}(b:f_ H0 H r b3 cY ax t s (a.cells cg .aA .aA))(d:cz H (bx (cY+1)) es cg):
  W (q1 (aI P aB) (.ptr r 0 0) (.ptr H0.next 0 0) (.ptr cY 0 0) H) (gC H0 r T ax (.mk a es [] []) (bh T [59] s)):=by
 have e:=c.rd.lt;have j:=b.ea;have k:=b.gi;rw[q1];refine aW (h0 (c.mut b.m b.rd) [59] (by simp)) ?_;rintro _ H1 ⟨rfl,m1,i⟩;refine⟨m1.1,?_⟩;exact sr c (b.mut e m1 i.rd) (d.a1 (dA.mut m1 (by unfold bx;omega) λ_ h=>h)) (dr.nil _ _) (dr.nil _ _)
