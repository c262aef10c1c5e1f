/-
  Texts of one proof, laid together: ShPa Re Rf Rg ShT V1 V2.
-/
import Derived.Test.YtghmbpmaafnodaaDoorMP
set_option linter.unusedVariables false
set_option linter.unusedSimpArgs false
set_option linter.defProp false
open Option renaming some→D,none→Z
open Bool renaming true→X,false→U
open Go.b9.aa renaming int→I,str→Y,bool→C
open Go.IntKind renaming i64→J
namespace Go.Proofs.YtghmbpmaafnodaaDoor
open Go.b9
open Nat (reduceAdd reduceLeDiff)
section
set_option maxRecDepth 100000
noncomputable section
def mg(G:ax)(N:Nat)(e h:aa)(bn q:aa)(H:ad):O:=aG H (G 21 [bn] H) λm d=>j (fk .not m) λn=>aV (D n) (a8 d (aT P d 26 e (.agg [aa.ar,aa.ar,aa.ar])) λa=>j (bW bn) λo=>j (aI P 59 o 3) λk=>j (al P a 29 k) λl=>a8 a (aT P a 29 h l) λc=>bif ((bg (al P d 29 k) l&&(bg (al P a 29 k) l&&X))&&X)then(j (al P c 26 e) λr=>j (al P c 29 h) λi=>D (.tuple [r,i],c))else Z) (j (al P d 26 q) λp=>a8 d (aT P d 26 e p) λa=>a8 a (aT P a 29 h (.agg [I J 0,I J 0])) λc=>j (al P c 26 e) λr=>j (al P c 29 h) λi=>D (.tuple [r,i],c))
def Mz(G:ax)(N:Nat):∀ae H,bm P G N (o (o (o (o (o (o (bq Tryd.f9))))))) (bh Tryd.f9) [] (bh Tryd.f9) ae H=mg G N (ae 2) (ae 3) (ae 6) (ae 7) H:=by
 refine bL (aH _) λae H=> ?_
 delta mg;kernel_rfl
def jl(G:ax)(N:Nat)(l:aa->aa->aa->aa->ad->O)(n o:aa)(bn e M:aa)(H:ad):O:=aV (D M) (aG H (G 24 [bn,I J 4] H) λaE k=>l n o bn e k) (aG H (G 23 [bn,Y [114,101,99,111,114,100]] H) λQ k=>aV (D Q) (j (bW bn) λR=>j (aI P 59 R 1) λS=>j (al P k 3 S) λT=>j (an P .add 3 X T (I J 1)) λV=>j (bW bn) λW=>j (aI P 59 W 1) λab=>a8 k (aT P k 3 ab V) λh=>aG h (G 25 [bn] h) λae a=>j (aI P 26 e 0) λs=>j (al P a 22 s) λu=>bV a (bU P (a).next 22 1 [(0,ae)]) λaf c=>aG c (cR P c [22,22] u af) λag d=>j (aI P 26 e 0) λah=>a8 d (aT P d 22 ah ag) λi=>bif ((bg (al P h 22 s) u&&(bg (al P a 22 s) u&&(bg (al P c 22 s) u&&X)))&&X)then(l n o bn e i)else Z) (aG k (G 23 [bn,Y [103,108,111,98,97,108]] k) λai h=>aV (D ai) (j (bW bn) λaj=>j (aI P 59 aj 1) λak=>j (al P h 3 ak) λam=>j (an P .add 3 X am (I J 1)) λao=>j (bW bn) λap=>j (aI P 59 ap 1) λaq=>a8 h (aT P h 3 aq ao) λa=>aG a (G 26 [bn] a) λau c=>j (aI P 26 e 1) λv=>j (al P c 23 v) λw=>bV c (bU P (c).next 23 1 [(0,au)]) λav d=>aG d (cR P d [23,23] w av) λaw i=>j (aI P 26 e 1) λaz=>a8 i (aT P i 23 az aw) λm=>bif ((bg (al P a 23 v) w&&(bg (al P c 23 v) w&&(bg (al P d 23 v) w&&X)))&&X)then(aG m (G 27 [bn,Y [59]] m) λaF x=>l n o bn e x)else Z) (aG h (G 23 [bn,Y [102,117,110,99]] h) λaA a=>aV (D aA) (j (bW bn) λaB=>j (aI P 59 aB 1) λaC=>j (al P a 3 aC) λy=>j (an P .add 3 X y (I J 1)) λz=>j (bW bn) λA=>j (aI P 59 A 1) λB=>a8 a (aT P a 3 B z) λc=>aG c (G 28 [bn] c) λE d=>j (aI P 26 e 2) λp=>j (al P d 24 p) λq=>bV d (bU P (d).next 24 1 [(0,E)]) λF i=>aG i (cR P i [24,24] q F) λK m=>j (aI P 26 e 2) λL=>a8 m (aT P m 24 L K) λx=>bif ((bg (al P c 24 p) q&&(bg (al P d 24 p) q&&(bg (al P i 24 p) q&&X)))&&X)then(l n o bn e x)else Z) (aG a (G 24 [bn,I J 2] a) λaD c=>l n o bn e c))))
def MA(G:ax)(N:Nat)(a:aa->aa->aa->aa->ad->O):∀ae H,bm P G N (o (a1 (a1 (o (a1 (a1 (a1 (o (o (o (o (o (bq Tryd.f9))))))))))))) (λae H=>a (ae 2) (ae 3) (ae 6) (ae 7) H) [(2,(λae H=>a (ae 2) (ae 3) (ae 6) (ae 7) H)),(1,(λae H=>a (ae 2) (ae 3) (ae 6) (ae 7) H)),(0,(λae H=>mg G N (ae 2) (ae 3) (ae 6) (ae 7) H))] (bh Tryd.f9) ae H=jl G N a (ae 2) (ae 3) (ae 6) (ae 7) (ae 31) H:=by
 refine bL (aH _) λae H=> ?_
 delta jl;kernel_rfl
def sV(G:ax)(N:Nat)(l:aa->aa->aa->aa->ad->O)(i k:aa)(bn a:aa)(H:ad):O:=aG H (G 21 [bn] H) λc K=>aP c X K (cm bn) λae o=>aP c X o (λq=>eX o (G 22 [ae] o) q) λaf T=>aP c X T (bF (cB P 61 af 0)) λag V=>aP c X V (bF (an P .neq 3 X ag (I J 0))) λah p=>j (cU c (D ah) (D (C U))) λai=>aV (D ai) (aG p (G 23 [bn,Y [114,101,99,111,114,100]] p) λd W=>aP d X W (bF (aI P 26 a 0)) λaj x=>aP d X x (qr (al P x 22 aj)) λz y=>aP d X y (λq=>gW (b4 P .empty .len [22] [z]) (b4 P y .len [22] [z]) q) λak ab=>aP d X ab (bF (an P .eql 3 X ak (I J 12))) λam m=>j (cU d (D am) (D (C U))) λA=>aV (D A) (jl G N l i k bn a A m) (aG m (G 23 [bn,Y [103,108,111,98,97,108]] m) λe L=>aP e X L (bF (aI P 26 a 1)) λao s=>aP e X s (qr (al P s 23 ao)) λB u=>aP e X u (λq=>gW (b4 P .empty .len [23] [B]) (b4 P u .len [23] [B]) q) λap M=>aP e X M (bF (an P .eql 3 X ap (I J 8))) λaq n=>j (cU e (D aq) (D (C U))) λE=>aV (D E) (jl G N l i k bn a E n) (aG n (G 23 [bn,Y [102,117,110,99]] n) λh Q=>aP h X Q (bF (aI P 26 a 2)) λau v=>aP h X v (qr (al P v 24 au)) λF w=>aP h X w (λq=>gW (b4 P .empty .len [24] [F]) (b4 P w .len [24] [F]) q) λav R=>aP h X R (bF (an P .eql 3 X av (I J 16))) λaw S=>j (cU h (D aw) (D (C U))) λaz=>jl G N l i k bn a az S))) (mg G N i k bn a p)
def lg(G:ax)(N:Nat):Nat->aa->aa->aa->aa->ad->O
 |0,_,_,_,_,_=>Z
 |n+1,a,c,bn,d,H=>sV G N (lg G N n) a c bn d H
def My(G:ax)(N:Nat)(a:aa->aa->aa->aa->ad->O):∀ae H,bm P G N (a1 (a1 (a1 (o (o (o (o (o (bq Tryd.f9))))))))) (λae H=>a (ae 2) (ae 3) (ae 6) (ae 7) H) [(0,(λae H=>mg G N (ae 2) (ae 3) (ae 6) (ae 7) H))] (bh Tryd.f9) ae H=sV G N a (ae 2) (ae 3) (ae 6) (ae 7) H:=by
 refine bL ((aN ah ((db ah ((db ah ((aN ah (MA G N a) (aH _))))))) (aH _))) λae H=> ?_
 delta sV;generalize mg G N=c;generalize jl G N a=d;revert c d;refine id ?_;intro c d;kernel_rfl
def qX(G:ax)(N:Nat)(ag:aa)(H:ad):O:=cp H [aa.ar,aa.ar,aa.ar] λi o=>cp o [I J 0,I J 0] λk l=>aG l (G 14 [ag] l) λn p=>j (eS n 0) λs=>j (eS n 1) λu=>cp p [I J 0,I J 0] λe m=>a8 m (aT P m 29 e u) λa=>j (aI P 29 e 0) λv=>j (al P a 27 v) λw=>j (an P .neq 27 X w (I J 0)) λx=>aV (D x) (a8 a (aT P a 26 i (.agg [aa.ar,aa.ar,aa.ar])) λc=>j (al P c 29 e) λh=>a8 c (aT P c 29 k h) λd=>bif ((bg (al P a 29 e) h&&(bg (al P c 29 e) h&&X))&&X)then(j (al P d 26 i) λr=>j (al P d 29 k) λq=>D (.tuple [r,q],d))else Z) (j (ch P 59 [(0,s)]) λy=>bV a (dT (a).next y) λz c=>cp c [aa.ar,aa.ar,aa.ar] λA d=>lg G N N i k z A d)
def KR(N:Nat){ag:aa}{H:ad}{r:aa×ad}(h:qX (aA P aw) N ag H=D r):aA P aw 9 [ag] H=D r:=cQ N (S:=λG=>qX G N ag H) Tryd.func9 (λG=>dO ((aN ah ((aN ah ((aN ah ((aN ah ((aN ah ((aN ah (Mz G N) ((db ah ((en (k:=λm ae H=>lg G N m (ae 2) (ae 3) (ae 6) (ae 7) H) ah (λae H=>ah) (λm=>My G N (lg G N m)))))))) (aH _))) (aH _))) (aH _))) (aH _))) (aH _))) (by delta qX;generalize lg G N N=a;revert a;refine id ?_;intro a;kernel_rfl)) h
def k2(G:ax)(N:Nat)(ag d e:aa)(H:ad):O:=aG H (G 27 [ag,Y [125]] H) λi a=>j (al P a 65 e) λh=>a8 a (aT P a 65 d h) λc=>j (al P c 65 d) λr=>D (r,c)
def Lk(G:ax)(N:Nat):∀ae H,bm P G N (o (o (o (o (o (bq Tryd.f25)))))) (bh Tryd.f25) [] (bh Tryd.f25) ae H=k2 G N (ae 0) (ae 2) (ae 3) H:=by
 refine bL (aH _) λae H=> ?_
 delta k2;kernel_rfl
def sx(G:ax)(N:Nat)(x:aa->aa->aa->ad->O)(ag o c:aa)(H:ad):O:=aG H (G 21 [ag] H) λh y=>aP h X y (cm ag) λbH m=>aP h X m (λq=>eX m (G 23 [bH,Y [125]] m) q) λF A=>aP h X A (bF (fk .not F)) λK n=>j (cU h (D K) (D (C U))) λL=>aV (D L) (aG n (G 22 [ag] n) λM B=>j (cB P 61 M 0) λQ=>j (an P .eql 3 X Q (I J 1)) λe=>aP e X B (bF (aI P 65 c 1)) λR u=>aP e X u (qr (al P u 23 R)) λw v=>aP e X v (λq=>gW (b4 P .empty .len [23] [w]) (b4 P v .len [23] [w]) q) λS E=>aP e X E (bF (an P .eql 3 X S (I J 8))) λT d=>j (cU e (D T) (D (C U))) λV=>aV (D V) (aG d (G 24 [ag,I J 4] d) λah a=>k2 G N ag o c a) (aG d (G 26 [ag] d) λW a=>j (aI P 65 c 1) λi=>j (al P a 23 i) λk=>bV a (bU P (a).next 23 1 [(0,W)]) λab l=>aG l (cR P l [23,23] k ab) λae p=>j (aI P 65 c 1) λaf=>a8 p (aT P p 23 af ae) λs=>bif ((bg (al P d 23 i) k&&(bg (al P a 23 i) k&&(bg (al P l 23 i) k&&X)))&&X)then(aG s (G 27 [ag,Y [59]] s) λai z=>x ag o c z)else Z)) (k2 G N ag o c n)
def lW(G:ax)(N:Nat):Nat->aa->aa->aa->ad->O
 |0,_,_,_,_=>Z
 |n+1,ag,a,c,H=>sx G N (lW G N n) ag a c H
def Lj(G:ax)(N:Nat)(c:aa->aa->aa->ad->O):∀ae H,bm P G N (a1 (a1 (a1 (o (o (o (o (bq Tryd.f25)))))))) (λae H=>c (ae 0) (ae 2) (ae 3) H) [(0,(λae H=>k2 G N (ae 0) (ae 2) (ae 3) H))] (bh Tryd.f25) ae H=sx G N c (ae 0) (ae 2) (ae 3) H:=by
 refine bL (aH _) λae H=> ?_
 delta sx;generalize k2 G N=a;revert a;refine id ?_;intro a;kernel_rfl
def sw(G:ax)(N:Nat)(ag:aa)(H:ad):O:=cp H [Y [],aa.ar,I J 0] λn c=>aG c (G 22 [ag] c) λo k=>j (cB P 61 o 3) λbn=>j (ch P 65 [(2,bn)]) λp=>cp k [Y [],aa.ar,I J 0] λa d=>a8 d (aT P d 65 a p) λe=>aG e (G 55 [ag] e) λq h=>j (aI P 65 a 0) λm=>a8 h (aT P h 9 m q) λi=>aG i (G 27 [ag,Y [123]] i) λs l=>lW G N N ag n a l
def Kc(N:Nat){ag:aa}{H:ad}{r:aa×ad}(h:sw (aA P aw) N ag H=D r):aA P aw 25 [ag] H=D r:=cQ N (S:=λG=>sw G N ag H) Tryd.func25 (λG=>dO ((aN ah ((aN ah ((aN ah ((aN ah ((aN ah (Lk G N) ((db ah ((en (k:=λm ae H=>lW G N m (ae 0) (ae 2) (ae 3) H) ah (λae H=>ah) (λm=>Lj G N (lW G N m)))))))) (aH _))) (aH _))) (aH _))) (aH _))) (by delta sw;generalize lW G N N=a;revert a;refine id ?_;intro a;kernel_rfl)) h
def sy(G:ax)(ag:aa)(H:ad):O:=cp H [Y [],Y [],I J 0,I J 0] λo d=>aG d (G 22 [ag] d) λv p=>j (cB P 61 v 3) λbn=>j (ch P 68 [(2,bn)]) λw=>cp p [Y [],Y [],I J 0,I J 0] λa h=>a8 h (aT P h 68 a w) λi=>aG i (G 55 [ag] i) λx k=>j (aI P 68 a 0) λq=>a8 k (aT P k 9 q x) λl=>aG l (G 27 [ag,Y [58]] l) λy m=>aG m (G 53 [ag] m) λs n=>j (aI P 68 a 1) λu=>a8 n (aT P n 40 u s) λc=>j (al P c 68 a) λbH=>a8 c (aT P c 68 o bH) λe=>j (al P e 68 o) λr=>D (r,e)
def Kd(N:Nat){ag:aa}{H:ad}{r:aa×ad}(h:sy (aA P aw) ag H=D r):aA P aw 26 [ag] H=D r:=cQ N (S:=λG=>sy G ag H) Tryd.func26 (λ_=>by delta sy;kernel_rfl) h
def nn(G:ax)(N:Nat)(ag e h:aa)(H:ad):O:=aG H (G 56 [ag] H) λi c=>j (aI P 73 h 4) λk=>a8 c (aT P c 71 k i) λa=>j (al P a 73 h) λl=>a8 a (aT P a 73 e l) λd=>j (al P d 73 e) λr=>D (r,d)
def Ln(G:ax)(N:Nat):∀ae H,bm P G N (o (o (o (o (o (o (o (bq Tryd.f28)))))))) (bh Tryd.f28) [] (bh Tryd.f28) ae H=nn G N (ae 0) (ae 2) (ae 3) H:=by
 refine bL (aH _) λae H=> ?_
 delta nn;kernel_rfl
def km(G:ax)(N:Nat)(ag k c:aa)(H:ad):O:=aG H (G 27 [ag,Y [41]] H) λy d=>aG d (G 23 [ag,Y [58]] d) λm a=>aV (D m) (j (bW ag) λn=>j (aI P 59 n 1) λo=>j (al P a 3 o) λp=>j (an P .add 3 X p (I J 1)) λq=>j (bW ag) λs=>j (aI P 59 s 1) λu=>a8 a (aT P a 3 u q) λe=>j (aI P 73 c 2) λv=>a8 e (aT P e 4 v (C X)) λh=>aG h (G 53 [ag] h) λw i=>j (aI P 73 c 3) λx=>a8 i (aT P i 40 x w) λl=>nn G N ag k c l) (nn G N ag k c a)
def Lm(G:ax)(N:Nat):∀ae H,bm P G N (o (o (o (o (o (bq Tryd.f28)))))) (bh Tryd.f28) [] (bh Tryd.f28) ae H=km G N (ae 0) (ae 2) (ae 3) H:=by
 refine bL ((aN ah ((aN ah (Ln G N) (aH _))) (aH _))) λae H=> ?_
 delta km;generalize nn G N=a;revert a;refine id ?_;intro a;kernel_rfl
def sA(G:ax)(N:Nat)(m:aa->aa->aa->ad->O)(ag e a:aa)(H:ad):O:=aG H (G 21 [ag] H) λi B=>aP i X B (cm ag) λbH s=>aP i X s (λq=>eX s (G 23 [bH,Y [41]] s) q) λM F=>aP i X F (bF (fk .not M)) λQ u=>j (cU i (D Q) (D (C U))) λR=>aV (D R) (aG u (G 22 [ag] u) λS K=>j (cB P 61 S 0) λT=>j (an P .eql 3 X T (I J 1)) λh=>aP h X K (bF (aI P 73 a 1)) λV y=>aP h X y (qr (al P y 23 V)) λA z=>aP h X z (λq=>gW (b4 P .empty .len [23] [A]) (b4 P z .len [23] [A]) q) λW L=>aP h X L (bF (an P .eql 3 X W (I J 6))) λab d=>j (cU h (D ab) (D (C U))) λae=>aV (D ae) (aG d (G 24 [ag,I J 4] d) λap c=>km G N ag e a c) (aG d (G 26 [ag] d) λaf c=>j (aI P 73 a 1) λk=>j (al P c 23 k) λl=>bV c (bU P (c).next 23 1 [(0,af)]) λah n=>aG n (cR P n [23,23] l ah) λai v=>j (aI P 73 a 1) λaj=>a8 v (aT P v 23 aj ai) λw=>bif ((bg (al P d 23 k) l&&(bg (al P c 23 k) l&&(bg (al P n 23 k) l&&X)))&&X)then(aG w (G 23 [ag,Y [41]] w) λak o=>j (fk .not ak) λam=>aV (D am) (aG o (G 27 [ag,Y [44]] o) λaq x=>aG x (G 23 [ag,Y [41]] x) λao p=>aV (D ao) (aG p (G 24 [ag,I J 2] p) λau E=>m ag e a E) (m ag e a p)) (m ag e a o))else Z)) (km G N ag e a u)
def kn(G:ax)(N:Nat):Nat->aa->aa->aa->ad->O
 |0,_,_,_,_=>Z
 |n+1,ag,a,c,H=>sA G N (kn G N n) ag a c H
def Ll(G:ax)(N:Nat)(c:aa->aa->aa->ad->O):∀ae H,bm P G N (a1 (a1 (a1 (o (o (o (o (bq Tryd.f28)))))))) (λae H=>c (ae 0) (ae 2) (ae 3) H) [(0,(λae H=>km G N (ae 0) (ae 2) (ae 3) H))] (bh Tryd.f28) ae H=sA G N c (ae 0) (ae 2) (ae 3) H:=by
 refine bL (aH _) λae H=> ?_
 delta sA;generalize km G N=a;revert a;refine id ?_;intro a;kernel_rfl
def sz(G:ax)(N:Nat)(ag:aa)(H:ad):O:=cp H [Y [],aa.ar,C U,Y [],I J 0,aa.ar,I J 0] λn c=>aG c (G 22 [ag] c) λo k=>j (cB P 61 o 3) λbn=>j (ch P 73 [(5,bn)]) λp=>cp k [Y [],aa.ar,C U,Y [],I J 0,aa.ar,I J 0] λa d=>a8 d (aT P d 73 a p) λe=>aG e (G 55 [ag] e) λq h=>j (aI P 73 a 0) λm=>a8 h (aT P h 9 m q) λi=>aG i (G 27 [ag,Y [40]] i) λs l=>kn G N N ag n a l
def Kf(N:Nat){ag:aa}{H:ad}{r:aa×ad}(h:sz (aA P aw) N ag H=D r):aA P aw 28 [ag] H=D r:=cQ N (S:=λG=>sz G N ag H) Tryd.func28 (λG=>dO ((aN ah ((aN ah ((aN ah ((aN ah ((aN ah (Lm G N) ((db ah ((en (k:=λm ae H=>kn G N m (ae 0) (ae 2) (ae 3) H) ah (λae H=>ah) (λm=>Ll G N (kn G N m)))))))) (aH _))) (aH _))) (aH _))) (aH _))) (by delta sz;generalize kn G N N=a;revert a;refine id ?_;intro a;kernel_rfl)) h
end
end
section
variable {H H':ad}{r:Nat}{T:List Tok}{ak:aa}{s s':aq}
def vQ(h:bG H r T ak s):W (aA P aw 26 [.ptr r 0 0] H) λv H'=>v= .agg (dD T s).1.cells/\b2 r H H'/\bG H' r T ak (dD T s).2:=by
 refine cA (λ_=>Kd 0) ?_;have aq:=h.rd.lt;have c:=aM.push H (.row U 4 [[Y [],Y [],I J 0,I J 0]]);have K:=ad.bx H (.row U 4 [[Y [],Y [],I J 0,I J 0]]);simp-implicitDefEqProofs(disch:=try exact aj)only[sy,bd,br,List.length_cons,List.length_nil,Nat.zero_add,Nat.reduceAdd];refine aL (hD (h.rd.aK c) (h.aK c).bu) ?_;rintro _ H1 ⟨rfl,a⟩;refine⟨a.1,?_⟩;have ag:=a.1;simp only[ad.bQ]at ag;have F:=(h.aK c).aK a;have L:=a.get K;unfold dD d_;generalize ao T s.at_=q;obtain⟨k,x,z,p⟩:=q;have j:=aM.push H1 (.row U 4 [[Y [],Y [],I J 0,I J p]]);have Q:=ad.bx H1 (.row U 4 [[Y [],Y [],I J 0,I J p]])
 simp-implicitDefEqProofs(disch:=try exact aj)only[bd,br,dS,al,cD,aT,cD,Nat.reduceAdd,Nat.reduceLeDiff,reduceIte,aa.cells,cK,dA,dw,ad.gy,Tok.v];refine aL (lQ (F.aK j)) ?_;rintro _ m ⟨rfl,m3,e⟩;refine⟨m3.1,?_⟩;have ah:=m3.1;simp only[ad.bQ]at ah;have M:=m3.get (j.get L) af;have w:=m3.get Q af;have dI:=ad.aR w;generalize bp T s=o at e ⊢;obtain⟨cc,e7⟩:=o;simp only at e ⊢;have V:=((((c.mut (· =r)).trans (a.mut _)).trans (j.mut _)).trans m3);have B:=V.cz (l:=H1.next) (.inr af) (.row U 4 [[Y cc,Y [],I J 0,I J p]]);have G:=h.mut B (show bt _ r ak e7 by unfold bt;rw[ad.get_set_other af];exact e.rd)
 have N:(m.set H1.next (.row U 4 [[Y cc,Y [],I J 0,I J p]])).get H.next=D (.row U 4 [[Y [],Y [],I J 0,I J 0]]):=by rw[ad.get_set_other af];exact M
 have R:(m.set H1.next (.row U 4 [[Y cc,Y [],I J 0,I J p]])).get H1.next=D (.row U 4 [[Y cc,Y [],I J 0,I J p]]):=ad.get_set_same dI
 simp-implicitDefEqProofs(disch:=try exact aj)only[bd,br,dS,al,cD,aT,cD,Nat.reduceAdd,Nat.reduceLeDiff,reduceIte,aa.cells,cK,dA,dw,w];refine aL (gr G [58] (by simp)) ?_;rintro _ an ⟨rfl,m5,n⟩;refine⟨m5.1,?_⟩;have ai:=m5.1;simp only[ad.di]at ai;have O:=m5.get N af;have S:=m5.get R af;generalize bj T [58] e7=am at n ⊢;simp-implicitDefEqProofs(disch:=try exact aj)only[bd,br];refine aL (oP n) ?_;rintro _ ap ⟨rfl,m6,i⟩;refine⟨m6.1,?_⟩;have az:=m6.1;have u:=m6.get O af;have A:=m6.get S af;have au:=ad.aR u;have ax:=ad.aR A;generalize b_ T am=o at i ⊢;obtain⟨⟨y,d⟩,aB⟩:=o;simp only at i ⊢;have ab:=(B.trans m5).trans m6
 have ae:=ab.cz (l:=H1.next) (.inr af) (.row U 4 [[Y cc,Y y,I J d,I J p]]);have E:=ae.cz (l:=H.next) (.inr (bf _)) (.row U 4 [[Y cc,Y y,I J d,I J p]]);simp-implicitDefEqProofs(disch:=try exact aj)only[reduceAdd,reduceLeDiff,reduceIte,av,u,A];exact a_.2 ⟨rfl,E,h.mut E (by unfold bt;rw[ad.get_set_other af,ad.get_set_other af];exact i.rd)⟩
end
section
variable {H H' H1:ad}{r:Nat}{T:List Tok}{ak:aa}{s s':aq}
def bG.mG{s0:aq}(h:bG H1 r T ak s0)(m:h6 r H1.next H1 H')(a:bt H' r ak s'):bG H' r T ak s':=
 ⟨a,h.bu.aY λl ro els e=>m.get e (by
  have:=ad.aR e;rintro(rfl|c)
  ·rw[h.rd]at e;simp only[aS,bN.row.injEq]at e;omega
  ·omega)⟩
structure fH(H1 H:ad)(r b c n2 esz:Nat)(T:List Tok)(ak:aa)(z:List aa)(x:aa)(rest:List aa)(l:List b5)(v:aa)(s:aq):Prop where
 cC:bG H r T ak s
 two:H.get b=some (.row false esz [z])
 cell:H.get c=some (.row false esz [x::v::rest])
 gv:c0 fK (bb n2) H l v
 m:h6 r H1.next H1 H
 bE:r<H1.next
 bX:H1.next<=b
 iM:b<c
 ck:c<n2
 dr:n2<=H.next
variable {b c n2 esz:Nat}{z:List aa}{x:aa}{rest:List aa}{l:List b5}{v:aa}
def fH.mut(h:fH H1 H r b c n2 esz T ak z x rest l v s)(m:b2 r H H')(cC:bG H' r T ak s'):fH H1 H' r b c n2 esz T ak z x rest l v s':=by
 have bE:=h.bE;have bX:=h.bX;have ck:=h.ck;have dr:=h.dr;have iM:=h.iM;exact⟨cC,m.get h.two af,m.get h.cell af,h.gv.aY (dd.mut m λk a=>by unfold bb at a;omega),h.m.trans m.r2,bE,bX,iM,ck,by have:=m.1;omega⟩
def fH.add{s0:aq}(u:bG H1 r T ak s0)(h:fH H1 H r b c n2 esz T ak z x rest l v s)(w:l.length<=1000000000)(p:b5):
  ∃i H',cR P (H.push (.row U 4 [p.cells])) [23,23] v (.ay H.next 0 1 4 (D 1))=D (i,H')/\H.next+1<=H'.next/\i.one=X/\H'.get c=D (.row U esz [x::v::rest])/\(H.push (.row U 4 [p.cells])).get c=D (.row U esz [x::v::rest])/\fH H1 (H'.set c (.row U esz [x::i::rest])) r b c n2 esz T ak z x rest (l++[p]) i s:=by
 have bE:=h.bE;have bX:=h.bX;have ck:=h.ck;have dr:=h.dr;have iM:=h.iM;obtain⟨i,H',a,n,q,d⟩:=h.gv.pm p (by unfold bb;omega) w;have gc:H'.get c=D (.row U esz [x::v::rest]):=by rw[d c af (by unfold bb;omega)];exact h.cell
 have lc:=ad.aR gc;have o:h6 r H1.next H1 (H'.set c (.row U esz [x::i::rest])):=h.m.trans ⟨by simp;omega,λk j az=>by
  have y:k≠r:=λe=>az (.inl e)
  have A:¬H1.next<=k:=λe=>az (.inr e)
  rw[ad.get_set_other af,d k j (by unfold bb;omega)]⟩
 refine⟨i,H',a,q,n.one,gc,(aM.push _ _).get h.cell,?_,by rw[ad.get_set_other af,d b af (by unfold bb;omega)];exact h.two,ad.get_set_same lc,n.aY λk x j g=>⟨j,by unfold bb at j;rw[ad.get_set_other af];exact g⟩,o,bE,bX,iM,ck,by simp;omega⟩;exact u.mG o (by unfold bt;rw[ad.get_set_other af,d r af (by unfold bb;omega)];exact h.cC.rd)
def Dc{N:Nat}{Q:aa->ad->Prop}{cc:aB}{am:Int}{s0:aq}(V:bG H1 r T ak s0){l':List b5}
  (x:∀H v,fH H1 H r b c n2 3 T ak z (Y cc) [I J am] l' v s'->W (k2 (aA P aw) N (.ptr r 0 0) (.ptr b 0 0) (.ptr c 0 0) H) Q):
  ∀(n m:Nat) (H:ad) (s:aq) (l:List b5) (v:aa),n<m->l.length+n<=1000000000->fH H1 H r b c n2 3 T ak z (Y cc) [I J am] l v s->oh T n l s=D (l',s')->W (lW (aA P aw) N m (.ptr r 0 0) (.ptr b 0 0) (.ptr c 0 0) H) Q
 |_,0,_,_,_,_,aH,_,_,_=>af
 |0,m+1,_,_,_,_,_,_,_,a=>by cases a
 |n+1,m+1,H,s,l,v,aH,a3,h,a=>by
  rw[oh]at a;rw[lW];unfold sx;refine aL (jN h.cC.rd) ?_;rintro _ aZ ⟨rfl,rfl⟩;refine⟨bf _,?_⟩;by_cases S:s.aD=0
  ·have e:(s.aD==0)=true:=by simpa using S
   simp-implicitDefEqProofs(disch:=try exact aj)only[bd,br,e];refine jw (dk h.cC.rd h.cC.bu [125] (by simp)) ?_;rintro _ a0 ⟨rfl,L⟩;refine⟨L.1,?_⟩;have o:=h.mut (L.mut _) (h.cC.aK L);rw[e,Bool.true_and]at a;cases ai:aW T s [125]with
   |true=>
    rw[ai]at a;cases a;simp-implicitDefEqProofs(disch:=try exact aj)only[bd,br,e,Bool.not_true];exact x _ _ o
   |false=>
    rw[ai,Bool.not_false,aU]at a;simp-implicitDefEqProofs(disch:=try exact aj)only[bd,br,e,Bool.not_false];refine aL (hD o.cC.rd o.cC.bu) ?_;rintro _ k ⟨rfl,M⟩;refine⟨M.1,?_⟩;have d:=o.mut (M.mut _) (o.cC.aK M);have K:=λH'=>d.gv.mM H'
    have a4:=d.gv.rd;have y:=d.cell;have a5:=d.gv.one;have go:((ao T s.at_).kind==1&&l.length==8)=X->W (aG k (aA P aw 24 [.ptr r 0 0,I J 4] k) λa7 i=>k2 (aA P aw) N (.ptr r 0 0) (.ptr b 0 0) (.ptr c 0 0) i) Q:=λhm=>by
     rw[hm,aU]at a;cases a;refine aL (jM d.cC 4) ?_;rintro _ a1 ⟨rfl,m5,aN⟩;exact⟨m5.1,x _ _ (d.mut m5 aN)⟩
    have on:((ao T s.at_).kind==1&&l.length==8)=U->W (aG k (aA P aw 26 [.ptr r 0 0] k) λaS i=>
      j (aI P 65 (.ptr c 0 0) 1) λB=>j (al P i 23 B) λE=>bV i (bU P (i).next 23 1 [(0,aS)]) λaV F=>aG F (cR P F [23,23] E aV) λaX ab=>j (aI P 65 (.ptr c 0 0) 1) λaY=>a8 ab (aT P ab 23 aY aX) λae=>
      bif ((bg (al P k 23 B) E&&(bg (al P i 23 B) E&&(bg (al P F 23 B) E&&X)))&&X)then(aG ae (aA P aw 27 [.ptr r 0 0,Y [59]] ae) λa9 aE=>lW (aA P aw) N m (.ptr r 0 0) (.ptr b 0 0) (.ptr c 0 0) aE)else Z) Q:=λhm=>by
     rw[hm,aO]at a;refine aL (vQ d.cC) ?_;rintro _ O ⟨rfl,m6,aP⟩;refine⟨m6.1,?_⟩;have w:=d.mut m6 aP;have aF:=w.cell;have aJ:=w.gv.rd;generalize dD T s=q at w a;obtain⟨p,a6⟩:=q;obtain⟨aR,an,az,aC,R,au,ax,ag⟩:=w.add V af p;have aM:=q1 qq O.next (cs:=p.cells) rfl rfl
     have a2:(O.push (.row U 4 [p.cells])).next<=an.next:=by simp only[ad.bQ];exact aC
     have ah:=ib R;simp only[aa.cells]at ah;simp-implicitDefEqProofs(disch:=try exact aj)only[bd,br,dS,al,cD,aT,cD,Nat.reduceAdd,Nat.reduceLeDiff,reduceIte,aa.cells,cK,dA,dw,ah,aF,aM,az,eK,au,ax,R,aJ,y];refine aL (gr ag.cC [59] (by simp)) ?_;rintro _ ap ⟨rfl,m8,aQ⟩;refine⟨m8.1,?_⟩;exact Dc V x n m ap _ _ aR af (by simp;omega) (ag.mut m8 aQ) a
    cases u:(ao T s.at_).kind==1 with
    |true=>
     rw[u]at go on;cases A:l.length==8 with
     |true=>
      have G:((l.length:Int)==8)=true:=by
       have:l.length=8:=by simpa using A
       simp;omega
      rw[A]at go;simp-implicitDefEqProofs(disch:=try exact aj)only[reduceAdd,reduceLeDiff,reduceIte,av,Tok.v,y,K,u,G];exact go rfl
     |false=>
      have G:((l.length:Int)==8)=false:=by
       have:l.length≠8:=by simpa using A
       simp;omega
      rw[A]at on;simp-implicitDefEqProofs(disch:=try exact aj)only[reduceAdd,reduceLeDiff,reduceIte,av,Tok.v,y,K,u,G];exact on rfl
    |false=>
     rw[u]at on;simp-implicitDefEqProofs(disch:=try exact aj)only[reduceAdd,reduceLeDiff,reduceIte,av,Tok.v,y,K,u];exact on rfl
  ·have e:(s.aD==0)=false:=by simpa using S
   rw[e]at a;cases a;simp-implicitDefEqProofs(disch:=try exact aj)only[bd,br,e];exact x _ _ h
end
section
variable {H H' H1:ad}{r:Nat}{T:List Tok}{ak:aa}{s s':aq}
def h6.mt(m:h6 r H.next H H'):b2 r H H':=⟨m.1,λl a az=>m.2 l a λe=>by
 rcases e with e|e
 ·exact az e
 ·omega⟩
def J0{n:Nat}(aB:n<=1000000000)(h:bG H r T ak s){x:e3}(F:mZ T n s=D (x,s')):W (aA P aw 25 [.ptr r 0 0] H) λv H'=>(∃cs,v= .agg cs/\iL.V H' (bb H.next) x cs)/\b2 r H H'/\bG H' r T ak s':=by
 refine cA (λ_=>Kc (n+1)) ?_;have az:=h.rd.lt;unfold mZ at F;obtain⟨⟨l',O⟩,j,G⟩:=cS.1 F;simp only[aS,bT]at G;obtain⟨rfl,rfl⟩:=G;have d:=aM.push H (.row U 3 [[Y [],.ar,I J 0]]);have ae:=ad.bx H (.row U 3 [[Y [],.ar,I J 0]]);simp-implicitDefEqProofs(disch:=try exact aj)only[sw,bd,br,List.length_cons,List.length_nil,Nat.zero_add,Nat.reduceAdd];refine aL (hD (h.rd.aK d) (h.aK d).bu) ?_;rintro _ H1 ⟨rfl,c⟩;refine⟨c.1,?_⟩;have aD:=c.1;simp only[ad.bQ]at aD;have Q:=(h.aK d).aK c;have ag:=c.get ae;generalize ao T s.at_=q;obtain⟨k,x,z,p⟩:=q;have u:=aM.push H1 (.row U 3 [[Y [],.ar,I J p]])
 have ap:=ad.bx H1 (.row U 3 [[Y [],.ar,I J p]]);simp-implicitDefEqProofs(disch:=try exact aj)only[bd,br,dS,al,cD,aT,cD,Nat.reduceAdd,Nat.reduceLeDiff,reduceIte,aa.cells,cK,dA,dw,ad.gy,Tok.v];refine aL (lQ (Q.aK u)) ?_;rintro _ w ⟨rfl,m3,i⟩;refine⟨m3.1,?_⟩;have aE:=m3.1;simp only[ad.bQ]at aE;have ah:=m3.get (u.get ag) af;have E:=m3.get ap af;have dI:=ad.aR E;generalize bp T s=o at i j ⊢;obtain⟨cc,e7⟩:=o;simp only at i j ⊢;have aC:=((((d.mut (· =r)).trans (c.mut _)).trans (u.mut _)).trans m3);have L:=aC.cz (l:=H1.next) (.inr af) (.row U 3 [[Y cc,.ar,I J p]]);have R:=h.mut L (show bt _ r ak e7 by unfold bt;rw[ad.get_set_other af];exact i.rd)
 have ai:(w.set H1.next (.row U 3 [[Y cc,.ar,I J p]])).get H.next=D (.row U 3 [[Y [],.ar,I J 0]]):=by rw[ad.get_set_other af];exact ah
 have aq:(w.set H1.next (.row U 3 [[Y cc,.ar,I J p]])).get H1.next=D (.row U 3 [[Y cc,.ar,I J p]]):=ad.get_set_same dI
 simp-implicitDefEqProofs(disch:=try exact aj)only[bd,br,dS,al,cD,aT,cD,Nat.reduceAdd,Nat.reduceLeDiff,reduceIte,aa.cells,cK,dA,dw,E];refine aL (gr R [123] (by simp)) ?_;rintro _ e ⟨rfl,m5,S⟩;refine⟨m5.1,?_⟩;have aF:=m5.1;simp only[ad.di]at aF;have am:=m5.get ai af;have au:=m5.get aq af;have gw:fH H e r H.next H1.next e.next 3 T ak [Y [],.ar,I J 0] (Y cc) [I J p] [] .ar (bj T [123] e7):=⟨S,am,au,.nil,b2.r2 (L.trans m5),az,bf _,af,af,bf _⟩
 refine Dc h (s':=O) (l':=l') (λaG v A=> ?_) n (n+1) e _ [] .ar (Nat.lt_succ_self _) (by simpa using aB) gw j;unfold k2;refine aL (gr A.cC [125] (by simp)) ?_;rintro _ y ⟨rfl,m7,ke⟩;refine⟨m7.1,?_⟩;have a:=A.mut m7 ke;have B:=a.two;have av:=a.cell;have N:=a.gv.one;have aH:=ad.aR B;have ax:=ib N;simp only[aa.cells]at ax;have M:h6 r H.next H (y.set H.next (.row U 3 [[Y cc,v,I J p]])):=a.m.cz (.inr (bf _)) _
 have ab:=h.mG M (s':=bj T [125] O) (by unfold bt;rw[ad.get_set_other af];exact a.cC.rd);have an:c0 fK (bb H.next) (y.set H.next (.row U 3 [[Y cc,v,I J p]])) l' v:=a.gv.aY λk x K g=>⟨by unfold bb at K ⊢;omega,by have:=a.dr;unfold bb at K;rw[ad.get_set_other af];exact g⟩
 simp-implicitDefEqProofs(disch:=try exact aj)only[bd,br,dS,al,cD,aT,cD,Nat.reduceAdd,Nat.reduceLeDiff,reduceIte,aa.cells,cK,dA,dw,B,av,N];exact a_.2 ⟨⟨_,rfl,v,rfl,an.ay⟩,M.mt,ab⟩
end
section
set_option maxRecDepth 100000
noncomputable section
def nx(G:ax)(N:Nat)(ag c:aa)(H:ad):O:=aG H (G 79 [ag,Y [125]] H) λd a=>D (c,a)
def L3(G:ax)(N:Nat):∀ae H,bm P G N (o (o (o (o (bq Tryd.f56))))) (bh Tryd.f56) [] (bh Tryd.f56) ae H=nx G N (ae 0) (ae 3) H:=by
 refine bL (aH _) λae H=> ?_
 delta nx;kernel_rfl
def sN(G:ax)(N:Nat)(k:aa->aa->ad->O)(ag i:aa)(H:ad):O:=aG H (G 21 [ag] H) λa l=>aP a X l (cm ag) λw c=>aP a X c (λq=>eX c (G 23 [w,Y [125]] c) q) λo m=>aP a X m (bF (fk .not o)) λp d=>j (cU a (D p) (D (C U))) λs=>aV (D s) (aG d (G 78 [ag] d) λu e=>bV e (bU P (e).next 71 1 [(0,u)]) λbH h=>aG h (cR P h [71,71] i bH) λv n=>k ag v n) (nx G N ag i d)
def ny(G:ax)(N:Nat):Nat->aa->aa->ad->O
 |0,_,_,_=>Z
 |n+1,ag,a,H=>sN G N (ny G N n) ag a H
def L2(G:ax)(N:Nat)(c:aa->aa->ad->O):∀ae H,bm P G N (a1 (a1 (a1 (o (o (o (bq Tryd.f56))))))) (λae H=>c (ae 0) (ae 3) H) [(0,(λae H=>nx G N (ae 0) (ae 3) H))] (bh Tryd.f56) ae H=sN G N c (ae 0) (ae 3) H:=by
 refine bL (aH _) λae H=> ?_
 delta sN;generalize nx G N=a;revert a;refine id ?_;intro a;kernel_rfl
def sM(G:ax)(N:Nat)(ag:aa)(H:ad):O:=aG H (G 77 [ag,Y [123]] H) λc a=>ny G N N ag aa.ar a
def Kw(N:Nat){ag:aa}{H:ad}{r:aa×ad}(h:sM (aA P aw) N ag H=D r):aA P aw 56 [ag] H=D r:=cQ N (S:=λG=>sM G N ag H) Tryd.func56 (λG=>dO ((aN ah ((aN ah ((aN ah ((aN ah (L3 G N) ((db ah ((en (k:=λm ae H=>ny G N m (ae 0) (ae 3) H) ah (λae H=>ah) (λm=>L2 G N (ny G N m)))))))) (aH _))) (aH _))) (aH _))) (by delta sM;generalize ny G N N=a;revert a;refine id ?_;intro a;kernel_rfl)) h
def gq(G:ax)(c e:aa)(H:ad):O:=j (al P H 112 e) λd=>a8 H (aT P H 112 c d) λa=>j (al P a 112 c) λr=>D (r,a)
def Mj(G:ax)(N:Nat):∀ae H,bm P G N (o (o (o (o (bq Tryd.f78))))) (bh Tryd.f78) [] (bh Tryd.f78) ae H=gq G (ae 2) (ae 4) H:=by
 refine bL (aH _) λae H=> ?_
 delta gq;kernel_rfl
def nE(G:ax)(ag c d:aa)(H:ad):O:=aG H (G 27 [ag,Y [59]] H) λe a=>gq G c d a
def Ml(G:ax)(N:Nat):∀ae H,bm P G N (o (o (o (o (o (o (a1 (o (a1 (a1 (o (o (o (bq Tryd.f78)))))))))))))) (λae H=>gq G (ae 2) (ae 4) H) [(0,(λae H=>gq G (ae 2) (ae 4) H))] (bh Tryd.f78) ae H=nE G (ae 0) (ae 2) (ae 4) H:=by
 refine bL (aH _) λae H=> ?_
 delta nE;generalize gq G=a;revert a;refine id ?_;intro a;kernel_rfl
def nF(G:ax)(ag c d:aa)(H:ad):O:=aG H (G 27 [ag,Y [59]] H) λe a=>gq G c d a
def Mm(G:ax)(N:Nat):∀ae H,bm P G N (o (o (o (a1 (o (o (o (o (o (o (o (a1 (a1 (o (o (o (bq Tryd.f78))))))))))))))))) (λae H=>gq G (ae 2) (ae 4) H) [(0,(λae H=>gq G (ae 2) (ae 4) H))] (bh Tryd.f78) ae H=nF G (ae 0) (ae 2) (ae 4) H:=by
 refine bL (aH _) λae H=> ?_
 delta nF;generalize gq G=a;revert a;refine id ?_;intro a;kernel_rfl
def lf(G:ax)(ag n:aa)(aw a ah:aa)(H:ad):O:=aV (D ah) (j (bW ag) λai=>j (aI P 59 ai 1) λaj=>j (al P H 3 aj) λak=>j (an P .add 3 X ak (I J 1)) λam=>j (bW ag) λao=>j (aI P 59 ao 1) λap=>a8 H (aT P H 3 ap am) λo=>j (aI P 112 a 0) λaq=>a8 o (aT P o 3 aq (I J 1)) λm=>aG m (G 55 [ag] m) λau i=>j (aI P 112 a 1) λav=>a8 i (aT P i 9 av au) λc=>aG c (G 27 [ag,Y [58]] c) λbp e=>aG e (G 53 [ag] e) λaz d=>j (aI P 112 a 2) λaA=>a8 d (aT P d 40 aA az) λh=>j (aI P 61 aw 1) λaB=>j (al P h 9 aB) λaC=>j (an P .eql 9 X aC (Y [108,101,116])) λaD=>aV (D aD) (j (aI P 112 a 0) λaE=>a8 h (aT P h 3 aE (I J 2)) λk=>aG k (G 27 [ag,Y [61]] k) λbq l=>aG l (G 40 [ag,I J 0] l) λaF p=>bV p (bU P (p).next 41 1 [(0,aF)]) λaH q=>j (aI P 112 a 3) λaJ=>a8 q (aT P q 41 aJ aH) λs=>nE G ag n a s) (nE G ag n a h)) (aG H (G 23 [ag,Y [105,102]] H) λaK o=>aV (D aK) (j (bW ag) λaL=>j (aI P 59 aL 1) λaM=>j (al P o 3 aM) λaN=>j (an P .add 3 X aN (I J 1)) λaO=>j (bW ag) λaP=>j (aI P 59 aP 1) λaQ=>a8 o (aT P o 3 aQ aO) λm=>j (aI P 112 a 0) λaR=>a8 m (aT P m 3 aR (I J 5)) λi=>aG i (G 40 [ag,I J 0] i) λaS c=>bV c (bU P (c).next 41 1 [(0,aS)]) λaU e=>j (aI P 112 a 3) λaW=>a8 e (aT P e 41 aW aU) λd=>aG d (G 56 [ag] d) λaX h=>j (aI P 112 a 4) λaY=>a8 h (aT P h 71 aY aX) λk=>aG k (G 23 [ag,Y [101,108,115,101]] k) λaZ l=>aV (D aZ) (j (bW ag) λa0=>j (aI P 59 a0 1) λa1=>j (al P l 3 a1) λa2=>j (an P .add 3 X a2 (I J 1)) λa3=>j (bW ag) λa4=>j (aI P 59 a4 1) λa5=>a8 l (aT P l 3 a5 a3) λp=>aG p (G 56 [ag] p) λa6 q=>j (aI P 112 a 5) λa7=>a8 q (aT P q 71 a7 a6) λs=>gq G n a s) (gq G n a l)) (aG o (G 23 [ag,Y [119,104,105,108,101]] o) λa9 m=>aV (D a9) (j (bW ag) λa_=>j (aI P 59 a_ 1) λba=>j (al P m 3 ba) λbb=>j (an P .add 3 X bb (I J 1)) λbc=>j (bW ag) λbd=>j (aI P 59 bd 1) λbe=>a8 m (aT P m 3 be bc) λi=>j (aI P 112 a 0) λbf=>a8 i (aT P i 3 bf (I J 6)) λc=>aG c (G 40 [ag,I J 0] c) λbg e=>bV e (bU P (e).next 41 1 [(0,bg)]) λbh d=>j (aI P 112 a 3) λbi=>a8 d (aT P d 41 bi bh) λh=>aG h (G 56 [ag] h) λbj k=>j (aI P 112 a 4) λbk=>a8 k (aT P k 71 bk bj) λl=>gq G n a l) (aG m (G 23 [ag,Y [114,101,116,117,114,110]] m) λbl i=>aV (D bl) (j (bW ag) λbm=>j (aI P 59 bm 1) λbn=>j (al P i 3 bn) λu=>j (an P .add 3 X u (I J 1)) λv=>j (bW ag) λw=>j (aI P 59 w 1) λx=>a8 i (aT P i 3 x v) λc=>j (aI P 112 a 0) λy=>a8 c (aT P c 3 y (I J 7)) λe=>aG e (G 23 [ag,Y [59]] e) λz d=>j (fk .not z) λA=>aV (D A) (aG d (G 40 [ag,I J 0] d) λB h=>bV h (bU P (h).next 41 1 [(0,B)]) λF k=>j (aI P 112 a 3) λK=>a8 k (aT P k 41 K F) λl=>nF G ag n a l) (nF G ag n a d)) (aG i (G 23 [ag,Y [112,114,105,110,116]] i) λL c=>aV (D L) (j (bW ag) λM=>j (aI P 59 M 1) λN=>j (al P c 3 N) λR=>j (an P .add 3 X R (I J 1)) λS=>j (bW ag) λT=>j (aI P 59 T 1) λV=>a8 c (aT P c 3 V S) λe=>j (aI P 112 a 0) λW=>a8 e (aT P e 3 W (I J 8)) λd=>aG d (G 40 [ag,I J 0] d) λab h=>bV h (bU P (h).next 41 1 [(0,ab)]) λae k=>j (aI P 112 a 3) λaf=>a8 k (aT P k 41 af ae) λl=>aG l (G 27 [ag,Y [59]] l) λbo p=>gq G n a p) (j (al P c 112 a) λE=>aG c (G 89 [ag,E] c) λQ e=>a8 e (aT P e 112 n Q) λd=>j (al P d 112 n) λr=>D (r,d))))))
def Mk(G:ax)(N:Nat):∀ae H,bm P G N (o (a1 (a1 (o (o (o (bq Tryd.f78))))))) (λae H=>gq G (ae 2) (ae 4) H) [(0,(λae H=>gq G (ae 2) (ae 4) H))] (bh Tryd.f78) ae H=lf G (ae 0) (ae 2) (ae 3) (ae 4) (ae 13) H:=by
 refine bL ((dt ah ((aN ah ((aN ah ((aN ah ((aN ah ((aN ah ((aN ah (Ml G N) (aH _))) (aH _))) (aH _))) (aH _))) (aH _))) (aH _))) ((aN ah ((dt ah (aH _) ((aN ah ((dt ah (aH _) ((aN ah ((dt ah ((aN ah ((aN ah ((aN ah (Mm G N) (aH _))) (aH _))) (aH _))) (aH _))) (aH _))))) (aH _))))) (aH _))))) λae H=> ?_
 delta lf;generalize nF G=a;generalize gq G=c;generalize nE G=d;revert a c d;refine id ?_;intro a c d;kernel_rfl
def qU(G:ax)(ag:aa)(H:ad):O:=cp H [I J 0,Y [],Y [],I J 0,aa.ar,aa.ar,aa.ar,I J 0,I J 0] λn e=>aG e (G 22 [ag] e) λbn o=>cp o [I J 0,Y [],I J 0,I J 0] λa h=>a8 h (aT P h 61 a bn) λi=>j (aI P 61 a 3) λs=>j (al P i 3 s) λu=>j (ch P 112 [(6,u)]) λv=>cp i [I J 0,Y [],Y [],I J 0,aa.ar,aa.ar,aa.ar,I J 0,I J 0] λd k=>a8 k (aT P k 112 d v) λl=>aG l (G 23 [ag,Y [118,97,114]] l) λm c=>aV (D m) (lf G ag n a d m c) (aG c (G 23 [ag,Y [108,101,116]] c) λq p=>lf G ag n a d q p)
def KK(N:Nat){ag:aa}{H:ad}{r:aa×ad}(h:qU (aA P aw) ag H=D r):aA P aw 78 [ag] H=D r:=cQ N (S:=λG=>qU G ag H) Tryd.func78 (λG=>dO ((aN ah ((aN ah ((aN ah ((aN ah (Mj G N) ((db ah ((aN ah (Mk G N) (aH _))))))) (aH _))) (aH _))) (aH _))) (by delta qU;generalize lf G=a;revert a;refine id ?_;intro a;kernel_rfl)) h
def me(G:ax)(ag c:aa)(k l:aa)(H:ad):O:=aG H (G 27 [ag,Y [61]] H) λT m=>aG m (G 40 [ag,I J 0] m) λs q=>cp q [I J 0,I J 0,Y [],Y [],I J 0,aa.ar,I J 0,I J 0,I J 0,I J 0,I J 0] λbn o=>a8 o (aT P o 45 bn s) λp=>aG p (G 27 [ag,Y [59]] p) λV i=>j (aI P 45 l 0) λu=>j (al P i 3 u) λv=>j (an P .eql 3 X v (I J 4)) λw=>aV (D w) (j (aI P 112 c 0) λx=>a8 i (aT P i 3 x (I J 3)) λa=>j (aI P 45 l 2) λy=>j (al P a 9 y) λz=>j (aI P 112 c 1) λA=>a8 a (aT P a 9 A z) λd=>j (al P d 45 bn) λB=>bV d (bU P (d).next 41 1 [(0,B)]) λE e=>j (aI P 112 c 3) λF=>a8 e (aT P e 41 F E) λh=>j (al P h 112 c) λK=>a8 h (aT P h 112 k K) λn=>j (al P n 112 k) λr=>D (r,n)) (j (aI P 112 c 0) λL=>a8 i (aT P i 3 L (I J 4)) λa=>j (al P a 45 l) λM=>j (al P a 45 bn) λN=>bV a (bU P (a).next 41 2 [(0,M),(1,N)]) λQ d=>j (aI P 112 c 3) λR=>a8 d (aT P d 41 R Q) λe=>j (al P e 112 c) λS=>a8 e (aT P e 112 k S) λh=>j (al P h 112 k) λr=>D (r,h))
def Mu(G:ax)(N:Nat):∀ae H,bm P G N (o (o (o (o (bq Tryd.f89))))) (bh Tryd.f89) [] (bh Tryd.f89) ae H=me G (ae 0) (ae 3) (ae 4) (ae 5) H:=by
 refine bL (aH _) λae H=> ?_
 delta me;kernel_rfl
def pb(G:ax)(ag k:aa)(l a:aa)(H:ad):O:=j (aI P 45 a 0) λq=>j (al P H 3 q) λs=>j (an P .neq 3 X s (I J 4)) λc=>aP c X H (bF (aI P 45 a 0)) λu h=>aP c X h (qr (al P h 3 u)) λv m=>aP c X m (bF (an P .neq 3 X v (I J 5))) λw n=>j (cU c (D w) (D (C U))) λd=>aP d X n (bF (aI P 45 a 0)) λx i=>aP d X i (qr (al P i 3 x)) λy o=>aP d X o (bF (an P .neq 3 X y (I J 6))) λz e=>j (cU d (D z) (D (C U))) λA=>aV (D A) (aG e (G 24 [ag,I J 2] e) λB p=>me G ag k l a p) (me G ag k l a e)
def Mt(G:ax)(N:Nat):∀ae H,bm P G N (o (o (o (bq Tryd.f89)))) (bh Tryd.f89) [] (bh Tryd.f89) ae H=pb G (ae 0) (ae 3) (ae 4) (ae 5) H:=by
 refine bL ((aN ah (Mu G N) (aH _))) λae H=> ?_
 delta pb;generalize me G=a;revert a;refine id ?_;intro a;kernel_rfl
def mf(G:ax)(ag h d:aa)(H:ad):O:=aG H (G 27 [ag,Y [59]] H) λi a=>j (al P a 112 h) λe=>a8 a (aT P a 112 d e) λc=>j (al P c 112 d) λr=>D (r,c)
def Mv(G:ax)(N:Nat):∀ae H,bm P G N (o (o (o (a1 (o (a1 (o (o (bq Tryd.f89))))))))) (λae H=>pb G (ae 0) (ae 3) (ae 4) (ae 5) H) [] (bh Tryd.f89) ae H=mf G (ae 0) (ae 3) (ae 4) H:=by
 refine bL (aH _) λae H=> ?_
 delta mf;kernel_rfl
def jj(G:ax)(ag au:aa)(H:ad):O:=bV H (dT (H).next au) λa s=>cp s [I J 0,Y [],Y [],I J 0,aa.ar,aa.ar,aa.ar,I J 0,I J 0] λk m=>aG m (G 40 [ag,I J 0] m) λQ x=>cp x [I J 0,I J 0,Y [],Y [],I J 0,aa.ar,I J 0,I J 0,I J 0,I J 0,I J 0] λd n=>a8 n (aT P n 45 d Q) λo=>aG o (G 23 [ag,Y [61]] o) λy h=>j (fk .not y) λz=>aV (D z) (j (aI P 112 a 0) λA=>a8 h (aT P h 3 A (I J 9)) λi=>j (al P i 45 d) λB=>bV i (bU P (i).next 41 1 [(0,B)]) λE p=>j (aI P 112 a 3) λF=>a8 p (aT P p 41 F E) λq=>aG q (G 23 [ag,Y [59]] q) λc u=>aP c X u (bF (aI P 45 d 0)) λK l=>aP c X l (qr (al P l 3 K)) λL v=>aP c X v (bF (an P .neq 3 X L (I J 7))) λM e=>j (cU c (D M) (D (C U))) λN=>aV (D N) (aG e (G 24 [ag,I J 2] e) λR w=>mf G ag a k w) (mf G ag a k e)) (pb G ag a k d h)
def KQ(N:Nat){ag au:aa}{H:ad}{r:aa×ad}(h:jj (aA P aw) ag au H=D r):aA P aw 89 [ag,au] H=D r:=cQ N (S:=λG=>jj G ag au H) Tryd.func89 (λG=>dO ((aN ah ((aN ah ((aN ah (Mt G N) ((aN ah ((dt ah ((aN ah ((aN ah ((aN ah (Mv G N) (aH _))) (aH _))) (aH _))) (aH _))) (aH _))))) (aH _))) (aH _))) (by delta jj;generalize pb G=a;generalize mf G=c;revert a c;refine id ?_;intro a c;kernel_rfl)) h
end
end
def oO{H:ad}{r:Nat}{T:List Tok}{ak:aa}{s:aq}(aE:T.length<=20000000)(c:bG H r T ak s):W (aA P aw 40 [.ptr r 0 0,I J 0] H) (dB H r T ak (bz T s).1 (bz T s).2):=by
 obtain⟨p,q,-,a,-,-⟩:=Dp (T:=T) af T.length s (Bm _ _) 0 800000000 800000000 af af af;have:bz T s=q:=by simp only[bz,a]
 rw[this];exact(xo 800000000 af 800000000 (bf _)).expr c 0 af q.1 q.2 a
def JY{H0 H:ad}{r:Nat}{T:List Tok}{ak:aa}{s0 s:aq}(c:bG H0 r T ak s0)(j:b2 r H0 H)(l:bt H r ak s){a:bZ}{es:List aJ}{b6:aa}(i:b7 H (bb (H0.next+2)) es b6)(g3:H.get H0.next=D (.row U 9 [a.cells b6 .ar .ar]))(g4:H.get (H0.next+1)=D (.row U 9 [[I J 0,Y [],Y [],I J 0,.ar,.ar,.ar,I J 0,I J 0]])):
  W (mf (aA P aw) (.ptr r 0 0) (.ptr H0.next 0 0) (.ptr (H0.next+1) 0 0) H) (fh H0 r T ak (.mk a es [] []) (bj T [59] s)):=by
 have n:=c.rd.lt;have mN:=ad.aR g4;have k:=i.ee;rw[mf];refine aL (gr (c.mut j l) [59] (by simp)) ?_;rintro _ H1 ⟨rfl,m1,m⟩;refine⟨m1.1,?_⟩;have d:=m1.get g3 af;have e:=m1.get g4 af;have e0:=ad.aR e;simp only[bZ.cells]at d;simp-implicitDefEqProofs(disch:=try exact aj)only[jj,reduceAdd,reduceLeDiff,reduceIte,av,eW,d,e,k];exact a_.2 (fh.fin (a:=a) c (j.trans m1) m.rd (i.aY (c8.mut m1 (by unfold bb;omega) λ_ h=>h)) (c1.nil _ _) (c1.nil _ _) af (lo:=H0.next+2) af _)
def fh.two{H c bI:ad}{r:Nat}{T:List Tok}{ak:aa}{s s':aq}{a:bZ}{es:List aJ}{b6:aa}(i:bG H r T ak s)(j:b2 r H c)(d:bt c r ak s')(u:c.next<=bI.next)(e:∀l,l<c.next->l≠H.next->l≠H.next+1->bI.get l=c.get l)
  (o:c8 c (bb (H.next+2)) bI (bb H.next)->b7 bI (bb H.next) es b6):fh H r T ak (.mk a es [] []) s' (.agg (a.cells b6 .ar .ar)) bI:=by
 have q:=i.rd.lt;have p:=j.1;have m:b2 r H bI:=⟨af,λl k n=>by rw[e l af af af];exact j.2 l k n⟩;refine⟨m,i.mut m ?_,lp.2 ⟨b6,.ar,.ar,rfl,o λl ro els h g=>⟨by unfold bb at*;omega,?_⟩,c1.nil _ _,c1.nil _ _⟩⟩
 ·have:=d.lt;unfold bt at d ⊢;rw[e r af af af];exact d
 ·have:=ad.aR g;unfold bb at h;rw[e l af af af];exact g
def J1{H0 H:ad}{r:Nat}{T:List Tok}{ak:aa}{s0 s:aq}(aE:T.length<=20000000)(d:bG H0 r T ak s0)(B:b2 r H0 H)(N:bt H r ak s){pos:Int}{a:bM}{ks:List aJ}{kv:aa}{b:Nat}(he:cy H (λl=>H0.next+2<=l/\l<b) (.mk a ks) (.agg (a.cells kv)))(ae:H0.next+2<=b)
  (g3:H.get H0.next=D (.row U 9 [bZ.cells {kind:=0,pos:=pos} .ar .ar .ar])) (g4:H.get (H0.next+1)=D (.row U 9 [[I J 0,Y [],Y [],I J 0,.ar,.ar,.ar,I J 0,I J 0]])) (g5:H.get b=D (.row U 11 [a.cells kv])):
  W (me (aA P aw) (.ptr r 0 0) (.ptr H0.next 0 0) (.ptr (H0.next+1) 0 0) (.ptr b 0 0) H) (fh H0 r T ak (bB.at pos (bif a.kind==4 then .mk {kind:=3,name:=a.name} [(bz T (bj T [61] s)).1] [] []else .mk {kind:=4} [.mk a ks,(bz T (bj T [61] s)).1] [] [])) (bj T [59] (bz T (bj T [61] s)).2)):=by
 have ag:=d.rd.lt;have ah:=ad.aR g5;rw[me];refine aL (gr (d.mut B N) [61] (by simp)) ?_;rintro _ H1 ⟨rfl,m1,m⟩;refine⟨m1.1,?_⟩;have am:=m1.1;generalize bj T [61] s=s1 at m ⊢;simp-implicitDefEqProofs(disch:=try exact aj)only[jj,reduceAdd,reduceLeDiff,reduceIte,av,eW];refine aL (oO aE m) ?_;rintro v q ⟨m2,n,j⟩;refine⟨m2.1,?_⟩;have n2:=m2.1;obtain⟨cs,rfl,i,bE⟩:=j.cells;generalize bz T s1=ab at n j ⊢;simp-implicitDefEqProofs(disch:=try exact aj)only[jj,reduceAdd,reduceLeDiff,reduceIte,av,eW,i,bE,List.append_nil];have c:=aM.push q (.row U 11 [cs]);refine aL (gr (n.aK c) [59] (by simp)) ?_;rintro _ F ⟨rfl,m4,y⟩
 refine⟨m4.1,?_⟩;have Q:=m4.1;simp only[ad.bQ]at Q;have gw:=n.rd.lt;have e:=m4.get (c.get (m2.get (m1.get g3 af) af)) af;have o:=m4.get (c.get (m2.get (m1.get g4 af) af)) af;have p:=m4.get (c.get (m2.get (m1.get g5 af) af)) af;have z:=m4.get (ad.bx q (.row U 11 [cs])) af;have ai:=ad.aR e;have al:=ad.aR o;have m24:=(c.mut (· =r)).trans m4;have E:=(((B.trans m1).trans m2).trans m24);have t1:List.take 11 cs=cs:=List.take_of_length_le af;have x:=j.mut (ok':=bb (H0.next+2)) m24 (by unfold bb;have:=m.rd.lt;omega) λl h=>by unfold bb at*;omega
 have G:cy F (bb (H0.next+2)) (.mk a ks) (.agg (a.cells kv)):=he.mut ((m1.trans m2).trans m24) af λl h=>by unfold bb;omega
 obtain⟨O,M,L⟩:=hp.1 he;have w:=L.ee;have K:O=kv:=by
  have:=congrArg (λv=>match v with|aa.agg cs=>cs[5]? |_=>Z) M;simpa [bM.cells]using this.symm
 rw[K]at w;have R:(a.cells kv).all aa.one=true:=by simp only[bM.cells,List.all_cons,List.all_nil,gO,hA,w,Bool.and_self]
 simp only[bZ.cells]at e;cases u:a.kind==4 with
 |true=>
  have az:∀l,bU P l 41 1 [(0,.agg cs)]=D (.ay l 0 1 11 (D 1),.row U 11 [cs]):=λl=>jm l cs i bE
  simp only[bM.cells]at p;simp-implicitDefEqProofs(disch:=try exact aj)only[jj,reduceAdd,reduceLeDiff,reduceIte,av,eW,e,o,p,z,u,t1,az,ad.gy];refine a_.2 (fh.two (a:={kind:=3,name:=a.name,pos:=pos}) d E y.rd ?_ ?_ λk=>b7.mT (ro:=false) ?_ (by unfold bb;omega) (cy.aY k _ _ x))
  ·simp only[ad.bQ,ad.di];omega
  ·intro l aZ S V;simp-implicitDefEqProofs(disch:=try exact aj)only[dw]
  ·simp-implicitDefEqProofs(disch:=try exact aj)only[dw]
 |false=>
  have az:∀l,bU P l 41 2 [(0,.agg (a.cells kv)),(1,.agg cs)]=D (.ay l 0 2 11 (D 2),.row U 11 [a.cells kv,cs]):=λl=>wh l (a.cells kv) cs rfl R i bE
  have A:=p;simp only[bM.cells]at A az;simp-implicitDefEqProofs(disch:=try exact aj)only[jj,reduceAdd,reduceLeDiff,reduceIte,av,eW,e,o,A,z,u,t1,az,ad.gy];refine a_.2 (fh.two (a:={kind:=4,pos:=pos}) d E y.rd ?_ ?_ λk=>b7.wI (ro:=false) ?_ (by unfold bb;omega) (cy.aY k _ _ G) (cy.aY k _ _ x))
  ·simp only[ad.bQ,ad.di];omega
  ·intro l aZ S V;simp-implicitDefEqProofs(disch:=try exact aj)only[dw]
  ·simp-implicitDefEqProofs(disch:=try exact aj)only[dw,bM.cells]
def JZ{H:ad}{r:Nat}{T:List Tok}{ak:aa}{s:aq}(aE:T.length<=20000000)(x:bG H r T ak s)(pos:Int):W (aA P aw 89 [.ptr r 0 0,.agg (bZ.cells {kind:=0,pos:=pos} .ar .ar .ar)] H) (fh H r T ak ((kd T s).1.at pos) (kd T s).2):=by
 refine cA (λ_=>KQ 0) ?_;have ax:=x.rd.lt;have ai:∀l,dT l (.agg (bZ.cells {kind:=0,pos:=pos} .ar .ar .ar))=D (.ptr l 0 0,.row U 9 [bZ.cells {kind:=0,pos:=pos} .ar .ar .ar]):=λl=>hr l _ rfl
 have ah:=(aM.push H (.row U 9 [bZ.cells {kind:=0,pos:=pos} .ar .ar .ar])).bs (.row U 9 [[I J 0,Y [],Y [],I J 0,.ar,.ar,.ar,I J 0,I J 0]]);simp-implicitDefEqProofs(disch:=try exact aj)only[jj,reduceAdd,reduceLeDiff,reduceIte,av,eW,ai];refine aL (oO aE (x.aK ah)) ?_;rintro v k ⟨m2,E,he⟩;refine⟨m2.1,?_⟩;have n2:=m2.1;simp only[ad.bQ]at n2;unfold kd;obtain⟨cs,rfl,ae,bE⟩:=he.cells;have t1:List.take 11 cs=cs:=List.take_of_length_le af;have g3:k.get H.next=D (.row U 9 [bZ.cells {kind:=0,pos:=pos} .ar .ar .ar]):=m2.get (by simp-implicitDefEqProofs(disch:=try exact aj)only[dw]) af
 have g4:=m2.get (ad.bx (H.push (.row U 9 [bZ.cells {kind:=0,pos:=pos} .ar .ar .ar])) (.row U 9 [[I J 0,Y [],Y [],I J 0,.ar,.ar,.ar,I J 0,I J 0]])) (by simp only[ad.bQ];omega);simp only[ad.bQ]at g4;generalize bz T s=d at E he ⊢;simp-implicitDefEqProofs(disch:=try exact aj)only[jj,reduceAdd,reduceLeDiff,reduceIte,av,eW,ae,bE,List.append_nil];have ab:=aM.push k (.row U 11 [cs]);refine aL (dk (E.rd.aK ab) (E.bu.aK ab) [61] (by simp)) ?_;rintro _ c ⟨rfl,L⟩;refine⟨L.1,?_⟩;have am:=L.1;simp only[ad.bQ]at am;have y:=ab.trans L;have G:=y.get g3;have K:=y.get g4
 have q:=L.get (ad.bx k (.row U 11 [cs]));have aB:=ad.aR G;have aC:=ad.aR q;have n:cy c (λl=>H.next+2<=l/\l<k.next) d.1 (.agg cs):=cy.aY (c8.aK y λl h=>by simpa only[bb,ad.bQ]using h) _ _ he.below;have V:=((ah.mut (· =r)).trans m2).trans (y.mut _);have Q:=E.aK y;cases au:aW T d.2 [61]with
 |true=>
  simp-implicitDefEqProofs(disch:=try exact aj)only[jj,reduceAdd,reduceLeDiff,reduceIte,av,eW,Bool.not_true];unfold wb;have fin:∀(i:ad) (a:bM) (ks:List aJ) (kv:aa),cy i (λl=>H.next+2<=l/\l<k.next) (.mk a ks) (.agg (a.cells kv))->b2 r H i->bt i r ak (bif ig (.mk a ks)then cE T 2 d.2 else d.2)->i.get H.next=D (.row U 9 [bZ.cells {kind:=0,pos:=pos} .ar .ar .ar])->i.get (H.next+1)=D (.row U 9 [[I J 0,Y [],Y [],I J 0,.ar,.ar,.ar,I J 0,I J 0]])->i.get k.next=D (.row U 11 [a.cells kv])->
    W (me (aA P aw) (.ptr r 0 0) (.ptr H.next 0 0) (.ptr (H.next+1) 0 0) (.ptr k.next 0 0) i) (fh H r T ak (bB.at pos (bif (aJ.mk a ks).kind==4 then .mk {kind:=3,name:=(aJ.mk a ks).name} [(bz T (hO T (.mk a ks) d.2)).1] [] []else .mk {kind:=4} [.mk a ks,(bz T (hO T (.mk a ks) d.2)).1] [] [])) (bj T [59] (bz T (hO T (.mk a ks) d.2)).2)):=
   λi a ks kv h m5 d5 z j e=>J1 aE x m5 d5 h af z j e
  rcases O:d.1 with⟨a,ks⟩;rw[O]at n;obtain⟨kv,w,-⟩:=hp.1 n;simp only[aa.agg.injEq]at w;subst w;have u:=q;simp only[bM.cells]at u;simp-implicitDefEqProofs(disch:=try exact aj)only[pb,reduceAdd,reduceLeDiff,reduceIte,av,u];have N:=λ(h:ig (.mk a ks)=U)=>fin c a ks kv n V (by rw[h];exact Q.rd) G K q
  cases j:(a.kind != 4)with
  |false=>
   simp-implicitDefEqProofs(disch:=try exact aj)only[reduceAdd,reduceLeDiff,reduceIte,av,u];exact N (by simp only[ig,aJ.kind,j,Bool.false_and])
  |true=>
   cases e:(a.kind != 5)with
   |false=>
    simp-implicitDefEqProofs(disch:=try exact aj)only[reduceAdd,reduceLeDiff,reduceIte,av,u,e];exact N (by simp only[ig,aJ.kind,j,e,Bool.false_and,Bool.and_false])
   |true=>
    cases m:(a.kind != 6)with
    |false=>
     simp-implicitDefEqProofs(disch:=try exact aj)only[reduceAdd,reduceLeDiff,reduceIte,av,u,e,m];exact N (by simp only[ig,aJ.kind,j,e,m,Bool.and_false])
    |true=>
     simp-implicitDefEqProofs(disch:=try exact aj)only[reduceAdd,reduceLeDiff,reduceIte,av,u,e,m];refine aL (jM Q 2) ?_;rintro _ i ⟨rfl,m5,F⟩;refine⟨m5.1,?_⟩;exact fin i a ks kv (n.mut m5 af λ_ h=>h) (V.trans m5) (by rw[show ig (.mk a ks)=X by simp only[ig,aJ.kind,j,e,m,Bool.and_self]];exact F.rd) (m5.get G af) (m5.get K af) (m5.get q af)
 |false=>
  have az:∀l,bU P l 41 1 [(0,.agg cs)]=D (.ay l 0 1 11 (D 1),.row U 11 [cs]):=λl=>jm l cs ae bE
  have ag:=G;simp only[bZ.cells]at ag;simp-implicitDefEqProofs(disch:=try exact aj)only[jj,reduceAdd,reduceLeDiff,reduceIte,av,eW,Bool.not_false,ag,K,q,t1,az,ad.gy];have A:∀l,l<c.next->l≠H.next->((c.set H.next (.row U 9 [bZ.cells {kind:=9,pos:=pos} (.ay c.next 0 1 11 (D 1)) .ar .ar])).push (.row U 11 [cs])).get l=c.get l:=λl an ao=>by simp-implicitDefEqProofs(disch:=try exact aj)only[dw]
  have m5:b2 r H ((c.set H.next (.row U 9 [bZ.cells {kind:=9,pos:=pos} (.ay c.next 0 1 11 (D 1)) .ar .ar])).push (.row U 11 [cs])):=(V.cz (.inr (bf _)) _).bs _;have d5:bt ((c.set H.next (.row U 9 [bZ.cells {kind:=9,pos:=pos} (.ay c.next 0 1 11 (D 1)) .ar .ar])).push (.row U 11 [cs])) r ak d.2:=by
   have h:=Q.rd;have:=h.lt;unfold bt at h ⊢;rw[A r af af];exact h
  have S:b7 ((c.set H.next (.row U 9 [bZ.cells {kind:=9,pos:=pos} (.ay c.next 0 1 11 (D 1)) .ar .ar])).push (.row U 11 [cs])) (bb (H.next+2)) [d.1] (.ay c.next 0 1 11 (D 1)):=
   b7.mT (ro:=false) (by simp-implicitDefEqProofs(disch:=try exact aj)only[dw]) (by unfold bb;omega) (cy.aY (λl ro els h g=>⟨by unfold bb;omega,by rw[A l af af];exact g⟩) _ _ n)
  have z:((c.set H.next (.row U 9 [bZ.cells {kind:=9,pos:=pos} (.ay c.next 0 1 11 (D 1)) .ar .ar])).push (.row U 11 [cs])).get H.next=D (.row U 9 [bZ.cells {kind:=9,pos:=pos} (.ay c.next 0 1 11 (D 1)) .ar .ar]):=by simp-implicitDefEqProofs(disch:=try exact aj)only[dw]
  have j:=(A (H.next+1) af af).trans K;have e:=(A k.next af af).trans q;simp only[bZ.cells]at m5 d5 S z j e;generalize (c.set H.next (.row U 9 [[aa.int J 9,Y [],Y [],I J 0,.ay c.next 0 1 11 (D 1),.ar,.ar,I J pos,I J 0]])).push (.row U 11 [cs])=i at m5 d5 S z j e ⊢;have F:=x.mut m5 d5;refine aL (dk d5 F.bu [59] (by simp)) ?_;rintro _ M ⟨rfl,o⟩;refine⟨o.1,?_⟩;have fin:∀(p:ad) (l_:aq),b2 r M p->bt p r ak l_->W (mf (aA P aw) (.ptr r 0 0) (.ptr H.next 0 0) (.ptr (H.next+1) 0 0) p) (fh H r T ak (.mk {kind:=9,pos:=pos} [d.1] [] []) (bj T [59] l_)):=λp l_ m7 d7=>
   JY x ((m5.trans (o.mut _)).trans m7) d7 (S.aY (c8.mut ((o.mut _).trans m7) (by unfold bb;omega) λ_ h=>h)) (m7.get (o.get z) af) (m7.get (o.get j) af)
  have R:=F.aK o;cases ap:aW T d.2 [59]with
  |false=>
   simp-implicitDefEqProofs(disch:=try exact aj)only[reduceAdd,reduceLeDiff,reduceIte,av];simp only[Bool.false_and,aO];exact fin M _ (cX.refl _ _) R.rd
  |true=>
   have m:=o.get e;rcases O:d.1 with⟨a,ks⟩;rw[O]at n fin;obtain⟨kv,w,-⟩:=hp.1 n;simp only[aa.agg.injEq]at w;subst w;simp only[bM.cells]at m;cases B:(a.kind != 7)with
   |false=>
    simp-implicitDefEqProofs(disch:=try exact aj)only[reduceAdd,reduceLeDiff,reduceIte,av,m,B];simp only[aJ.kind,B,Bool.and_false,aO];exact fin M _ (cX.refl _ _) R.rd
   |true=>
    simp-implicitDefEqProofs(disch:=try exact aj)only[reduceAdd,reduceLeDiff,reduceIte,av,m,B];simp only[aJ.kind,B,Bool.and_self,aU];refine aL (jM R 2) ?_;rintro _ p ⟨rfl,m7,al⟩;refine⟨m7.1,?_⟩;exact fin p _ m7 al.rd
def rj(n:Nat):Prop:=∀{H:ad} {r:Nat} {T:List Tok} {ak:aa} {s:aq},T.length<=20000000->bG H r T ak s->∀(e:bB) (s':aq),pf T n s=D (e,s')->W (aA P aw 78 [.ptr r 0 0] H) (fh H r T ak e s')
def rb(n:Nat):Prop:=∀{H:ad} {r:Nat} {T:List Tok} {ak:aa} {s:aq},T.length<=20000000->bG H r T ak s->∀(l:List bB) (s':aq),i_ T n s=D (l,s')->W (aA P aw 56 [.ptr r 0 0] H) λv H'=>b2 r H H'/\bG H' r T ak s'/\c1 H' (bb H.next) l v
def CX{M:Nat}{H0 H:ad}{r:Nat}{T:List Tok}{ak:aa}{s0 s:aq}(a:bG H0 r T ak s0)(c:b2 r H0 H)(d:bt H r ak s){l:List bB}{v:aa}(e:c1 H (bb H0.next) l v):
  W (nx (aA P aw) M (.ptr r 0 0) v H) λj H'=>b2 r H0 H'/\bG H' r T ak (dn T [125] s)/\c1 H' (bb H0.next) l j:=by
 have k:=a.rd.lt;rw[nx];refine aL (oM (a.mut c d) [125] (by simp)) ?_;rintro _ H1 ⟨rfl,m1,i⟩;refine⟨m1.1,?_⟩;exact a_.2 ⟨c.trans m1,i,e.aY (dX.mut m1 (by unfold bb;omega) λ_ h=>h)⟩
def Df{N M:Nat}(F:∀k,k<N->rj k){H0:ad}{r:Nat}{T:List Tok}{ak:aa}{s0:aq}(aE:T.length<=20000000)(j:bG H0 r T ak s0):
  ∀(n m:Nat),n<=N->n<m->∀(H:ad) (s:aq) (l:List bB) (v:aa),b2 r H0 H->bt H r ak s->l.length+n<=1000000000->kF H0.next H l v->∀(l':List bB) (s':aq),mO T n l s=D (l',s')->
   W (ny (aA P aw) M m (.ptr r 0 0) v H) λx H'=>b2 r H0 H'/\bG H' r T ak (dn T [125] s')/\c1 H' (bb H0.next) l' x
 |0,m,z,hm,H,s,l,v,d,i,hlen,o,l',s',h=>by simp[mO]at h
 |n+1,0,z,hm,H,s,l,v,d,i,hlen,o,l',s',h=>af
 |n+1,m+1,z,hm,H,s,l,v,d,i,hlen,o,l',s',h=>by
  have E:=j.rd.lt;have hle:=d.1;have u:=j.mut d i;simp only[mO]at h;simp only[ny];rw[sN];refine aL (jN i) ?_;rintro _ H1 ⟨rfl,rfl⟩;refine⟨bf _,?_⟩;by_cases A:s.aD=0
  ·have a:(s.aD==0)=true:=by simp[A]
   simp-implicitDefEqProofs(disch:=try exact aj)only[reduceAdd,reduceLeDiff,reduceIte,av,a];refine jw (dk i u.bu [125] (by simp)) ?_;rintro _ am ⟨rfl,e⟩;refine⟨e.1,?_⟩;have q:=o.mut (e.mut (· =r)) E;cases B:aW T s [125]with
   |true=>
    simp only[a,B,Bool.not_true,Bool.and_false,aO,aS,bT]at h;obtain⟨rfl,rfl⟩:=h;simp-implicitDefEqProofs(disch:=try exact aj)only[reduceAdd,reduceLeDiff,reduceIte,av,a,Bool.not_true,Bool.not_false];exact CX j (d.trans (e.mut _)) (u.aK e).rd q.DX
   |false=>
    simp only[a,B,Bool.not_false,Bool.and_self,aU,cS]at h;obtain⟨⟨y,s1⟩,O,Q⟩:=h;simp-implicitDefEqProofs(disch:=try exact aj)only[reduceAdd,reduceLeDiff,reduceIte,av,a,Bool.not_true,Bool.not_false];refine aL (F n af aE (u.aK e) y s1 O) ?_;rintro w an ⟨m3,ah,he⟩;refine⟨m3.1,?_⟩;obtain⟨cs,rfl,K,bE⟩:=he.cells;have V:=q.mut m3 E;have ap:=m3.1;have n2:=e.1;obtain⟨x,H',R,S,G,ao⟩:=V.app he af (λL k c p=>by
     rcases q with⟨aZ,_⟩|⟨L',els,aZ,al,_⟩
     ·rw[aZ]at p;cases p
     ·rw[aZ]at p;cases p;exact ad.aR al) af af
    have az:=λl=>MP l cs K bE
    simp-implicitDefEqProofs(disch:=try exact aj)only[reduceAdd,reduceLeDiff,reduceIte,av,az,R,eK];have ai:b2 r H0 H':=⟨by have:=d.1;omega,λk ab ae=>by
     rw[G.2 k af af];exact((d.trans (e.mut _)).trans m3).2 k ab ae⟩
    have ag:bt H' r ak s1:=G.get ah.rd af;exact Df F aE j n m af af H' s1 (l++[y]) x ai ag (by simp only[List.length_append,List.length_cons,List.length_nil];omega) S l' s' Q
  ·have a:(s.aD==0)=false:=by simpa using A
   simp only[a,Bool.false_and,aO,aS,bT]at h;obtain⟨rfl,rfl⟩:=h;simp-implicitDefEqProofs(disch:=try exact aj)only[reduceAdd,reduceLeDiff,reduceIte,av,a,Bool.not_true];exact CX j d i o.DX
def JE{n:Nat}(e:n<=1000000000)(j:∀k,k<n->rj k):rb (n+1):=by
 intro H r T ak s aE c l s' h;refine cA (λ_=>Kw (n+1)) ?_;simp only[i_,cS]at h;obtain⟨⟨m,s1⟩,d,a⟩:=h;simp only[aS,bT]at a;obtain⟨rfl,rfl⟩:=a;rw[sM];refine aL (oQ c [123] (by simp)) ?_;rintro _ H1 ⟨rfl,m1,i⟩;refine⟨m1.1,?_⟩;exact Df j aE c n (n+1) (bf _) af H1 _ [] .ar m1 i.rd (by simpa using e) (.inl ⟨rfl,rfl⟩) m s1 d
structure eY(H0 H:ad)(r b3 cN:Nat)(ak:aa)(t:Tok)(s:aq)(c:List aa):Prop where
 m:b2 r H0 H
 rd:bt H r ak s
 g2:H.get H0.next=some (.row false 9 [[.int .i64 0,.str [],.str [],.int .i64 0,.ar,.ar,.ar,.int .i64 0,.int .i64 0]])
 g3:H.get b3=some (.row false 4 [[.int .i64 t.kind,.str t.text,.int .i64 t.n,.int .i64 t.pos]])
 g4:H.get cN=some (.row false 9 [c])
 dI:H0.next<b3
 e0:b3<cN
def eY.mut{H0 H H':ad}{r b3 cN:Nat}{ak:aa}{t:Tok}{s s':aq}{c:List aa}(h:eY H0 H r b3 cN ak t s c)(d:r<H0.next)(m:b2 r H H')(a:bt H' r ak s'):eY H0 H' r b3 cN ak t s' c:=
 ⟨h.m.trans m,a,m.get h.g2 af,m.get h.g3 (by have:=h.dI;omega),m.get h.g4 (by have:=h.dI;have:=h.e0;omega),h.dI,h.e0⟩
def eY.set{H0 H:ad}{r b3 cN:Nat}{ak:aa}{t:Tok}{s:aq}{c:List aa}(h:eY H0 H r b3 cN ak t s c)(e:r<H0.next)(c':List aa):eY H0 (H.set cN (.row U 9 [c'])) r b3 cN ak t s c':=by
 have a:=h.dI;have d:=h.e0;refine⟨h.m.cz (.inr af) _,?_,?_,?_,ad.get_set_same (ad.aR h.g4),a,d⟩
 ·have:=h.rd;unfold bt at this ⊢;rw[ad.get_set_other af];exact this
 ·rw[ad.get_set_other af];exact h.g2
 ·rw[ad.get_set_other af];exact h.g3
def eY.push{H0 H:ad}{r b3 cN:Nat}{ak:aa}{t:Tok}{s:aq}{c:List aa}(h:eY H0 H r b3 cN ak t s c)(d:r<H0.next)(a:bN):eY H0 (H.push a) r b3 cN ak t s c:=
 h.mut d ((aM.push H a).mut _) (h.rd.aK (aM.push H a))
section
variable {H0 H:ad}{r b3 cN:Nat}{T:List Tok}{ak:aa}{s0 s:aq}{t:Tok}
def oR(k:bG H0 r T ak s0){a:bZ}{es:List aJ}{c d:List bB}{b6 bv e:aa}(b:eY H0 H r b3 cN ak t s (a.cells b6 bv e))(h:b7 H (bb (cN+1)) es b6)(i:c1 H (bb (cN+1)) c bv)(j:c1 H (bb (cN+1)) d e):
  W (gq (aA P aw) (.ptr H0.next 0 0) (.ptr cN 0 0) H) (fh H0 r T ak (.mk a es c d) s):=by
 have bE:=h.ee;have bX:=i.ee;have ck:=j.ee;have g2:=b.g2;have g3:=b.g4;have l:=ad.aR g2;have n:=b.dI;have o:=b.e0;simp only[bZ.cells]at g3;simp-implicitDefEqProofs(disch:=try exact aj)only[gq,reduceAdd,reduceLeDiff,reduceIte,av,eW,g2,g3,bE,bX,ck];exact a_.2 (fh.fin (a:=a) k b.m b.rd h i j (bf _) af _)
def eY.expr(a:r<H0.next){e:aJ}{cs c c':List aa}{L:Nat}(b:eY H0 H r b3 cN ak t s c)(he:cy H (bb (cN+1)) e (.agg cs))(d:L=H.next):eY H0 ((H.set cN (.row U 9 [c'])).push (.row U 11 [cs])) r b3 cN ak t s c'/\b7 ((H.set cN (.row U 9 [c'])).push (.row U 11 [cs])) (bb (cN+1)) [e] (.ay L 0 1 11 (D 1)):=by
 subst d;have i:=ad.aR b.g4;refine⟨(b.set a c').push a _,b7.mT (ro:=false) ?_ (by unfold bb;omega) (cy.aY ?_ e _ he)⟩
 ·exact ad.bx (H.set cN (.row U 9 [c'])) _
 ·intro l ro els h g;refine⟨h,?_⟩;unfold bb at h;exact(aM.push _ _).get (by rw[ad.get_set_other af];exact g)
def C3(c:bG H0 r T ak s0){a:bZ}{es:List aJ}{b6:aa}(b:eY H0 H r b3 cN ak t s (a.cells b6 .ar .ar))(d:b7 H (bb (cN+1)) es b6):
  W (nE (aA P aw) (.ptr r 0 0) (.ptr H0.next 0 0) (.ptr cN 0 0) H) (fh H0 r T ak (.mk a es [] []) (bj T [59] s)):=by
 have e:=c.rd.lt;have j:=b.dI;have k:=b.e0;rw[nE];refine aL (gr (c.mut b.m b.rd) [59] (by simp)) ?_;rintro _ H1 ⟨rfl,m1,i⟩;refine⟨m1.1,?_⟩;exact oR c (b.mut e m1 i.rd) (d.aY (c8.mut m1 (by unfold bb;omega) λ_ h=>h)) (c1.nil _ _) (c1.nil _ _)
def Dr(c:bG H0 r T ak s0){a:bZ}{es:List aJ}{b6:aa}(b:eY H0 H r b3 cN ak t s (a.cells b6 .ar .ar))(d:b7 H (bb (cN+1)) es b6):
  W (nF (aA P aw) (.ptr r 0 0) (.ptr H0.next 0 0) (.ptr cN 0 0) H) (fh H0 r T ak (.mk a es [] []) (bj T [59] s)):=by
 have e:=c.rd.lt;have j:=b.dI;have k:=b.e0;rw[nF];refine aL (gr (c.mut b.m b.rd) [59] (by simp)) ?_;rintro _ H1 ⟨rfl,m1,i⟩;refine⟨m1.1,?_⟩;exact oR c (b.mut e m1 i.rd) (d.aY (c8.mut m1 (by unfold bb;omega) λ_ h=>h)) (c1.nil _ _) (c1.nil _ _)
