/-
  Texts of one proof, laid together: ShPa Re Rf Rg ShT V1 V2.
-/
import Derived.Test.YtghmbpmaafnodaaDoorMP
set_option linter.unusedVariables false
set_option linter.unusedSimpArgs false
set_option linter.defProp false
open Option renaming some→D,none→Z
open Bool renaming true→X,false→U
open Go.b9.aa renaming int→I,str→Y,bool→C
open Go.IntKind renaming i64→J
namespace Go.Proofs.YtghmbpmaafnodaaDoor
open Go.b9
open Nat (reduceAdd reduceLeDiff)
section
set_option maxRecDepth 100000
noncomputable section
def mb(G:ay)(N:Nat)(e h:aa)(bp q:aa)(H:ae):O:=aI H (G 21 [bp] H) λm d=>j (e2 .not m) λn=>aW (D n) (a7 d (aV P d 26 e (.agg [aa.ar,aa.ar,aa.ar])) λa=>j (bW bp) λo=>j (aK P 59 o 3) λk=>j (an P a 29 k) λl=>a7 a (aV P a 29 h l) λc=>bif ((bj (an P d 29 k) l&&(bj (an P a 29 k) l&&X))&&X)then(j (an P c 26 e) λr=>j (an P c 29 h) λi=>D (.tuple [r,i],c))else Z) (j (an P d 26 q) λp=>a7 d (aV P d 26 e p) λa=>a7 a (aV P a 29 h (.agg [I J 0,I J 0])) λc=>j (an P c 26 e) λr=>j (an P c 29 h) λi=>D (.tuple [r,i],c))
def L0(G:ay)(N:Nat):∀ad H,bo P G N (ak (ak (ak (ak (ak (ak (bs Tryd.f9))))))) (bh Tryd.f9) [] (bh Tryd.f9) ad H=mb G N (ad 2) (ad 3) (ad 6) (ad 7) H:=by
 refine bK (aH _) λad H=> ?_
 delta mb;kernel_rfl
def jg(G:ay)(N:Nat)(l:aa->aa->aa->aa->ae->O)(n o:aa)(bp e M:aa)(H:ae):O:=aW (D M) (aI H (G 24 [bp,I J 4] H) λaE k=>l n o bp e k) (aI H (G 23 [bp,Y [114,101,99,111,114,100]] H) λQ k=>aW (D Q) (j (bW bp) λR=>j (aK P 59 R 1) λS=>j (an P k 3 S) λT=>j (aq P .add 3 X T (I J 1)) λV=>j (bW bp) λW=>j (aK P 59 W 1) λab=>a7 k (aV P k 3 ab V) λh=>aI h (G 25 [bp] h) λad a=>j (aK P 26 e 0) λs=>j (an P a 22 s) λu=>bS a (bV P (a).next 22 1 [(0,ad)]) λaf c=>aI c (cQ P c [22,22] u af) λag d=>j (aK P 26 e 0) λah=>a7 d (aV P d 22 ah ag) λi=>bif ((bj (an P h 22 s) u&&(bj (an P a 22 s) u&&(bj (an P c 22 s) u&&X)))&&X)then(l n o bp e i)else Z) (aI k (G 23 [bp,Y [103,108,111,98,97,108]] k) λai h=>aW (D ai) (j (bW bp) λaj=>j (aK P 59 aj 1) λak=>j (an P h 3 ak) λal=>j (aq P .add 3 X al (I J 1)) λam=>j (bW bp) λao=>j (aK P 59 ao 1) λap=>a7 h (aV P h 3 ap am) λa=>aI a (G 26 [bp] a) λau c=>j (aK P 26 e 1) λv=>j (an P c 23 v) λw=>bS c (bV P (c).next 23 1 [(0,au)]) λav d=>aI d (cQ P d [23,23] w av) λaw i=>j (aK P 26 e 1) λax=>a7 i (aV P i 23 ax aw) λm=>bif ((bj (an P a 23 v) w&&(bj (an P c 23 v) w&&(bj (an P d 23 v) w&&X)))&&X)then(aI m (G 27 [bp,Y [59]] m) λaF x=>l n o bp e x)else Z) (aI h (G 23 [bp,Y [102,117,110,99]] h) λaz a=>aW (D az) (j (bW bp) λaB=>j (aK P 59 aB 1) λaC=>j (an P a 3 aC) λy=>j (aq P .add 3 X y (I J 1)) λz=>j (bW bp) λA=>j (aK P 59 A 1) λB=>a7 a (aV P a 3 B z) λc=>aI c (G 28 [bp] c) λE d=>j (aK P 26 e 2) λp=>j (an P d 24 p) λq=>bS d (bV P (d).next 24 1 [(0,E)]) λF i=>aI i (cQ P i [24,24] q F) λK m=>j (aK P 26 e 2) λL=>a7 m (aV P m 24 L K) λx=>bif ((bj (an P c 24 p) q&&(bj (an P d 24 p) q&&(bj (an P i 24 p) q&&X)))&&X)then(l n o bp e x)else Z) (aI a (G 24 [bp,I J 2] a) λaD c=>l n o bp e c))))
def L1(G:ay)(N:Nat)(a:aa->aa->aa->aa->ae->O):∀ad H,bo P G N (ak (a6 (a6 (ak (a6 (a6 (a6 (ak (ak (ak (ak (ak (bs Tryd.f9))))))))))))) (λad H=>a (ad 2) (ad 3) (ad 6) (ad 7) H) [(2,(λad H=>a (ad 2) (ad 3) (ad 6) (ad 7) H)),(1,(λad H=>a (ad 2) (ad 3) (ad 6) (ad 7) H)),(0,(λad H=>mb G N (ad 2) (ad 3) (ad 6) (ad 7) H))] (bh Tryd.f9) ad H=jg G N a (ad 2) (ad 3) (ad 6) (ad 7) (ad 31) H:=by
 refine bK (aH _) λad H=> ?_
 delta jg;kernel_rfl
def sO(G:ay)(N:Nat)(l:aa->aa->aa->aa->ae->O)(i k:aa)(bp a:aa)(H:ae):O:=aI H (G 21 [bp] H) λc K=>aQ c X K (ca bp) λad o=>aQ c X o (λq=>eJ o (G 22 [ad] o) q) λaf T=>aQ c X T (bA (cA P 61 af 0)) λag V=>aQ c X V (bA (aq P .neq 3 X ag (I J 0))) λah p=>j (cB c (D ah) (D (C U))) λai=>aW (D ai) (aI p (G 23 [bp,Y [114,101,99,111,114,100]] p) λd W=>aQ d X W (bA (aK P 26 a 0)) λaj x=>aQ d X x (qr (an P x 22 aj)) λz y=>aQ d X y (λq=>gg (b2 P .empty .len [22] [z]) (b2 P y .len [22] [z]) q) λak ab=>aQ d X ab (bA (aq P .eql 3 X ak (I J 12))) λal m=>j (cB d (D al) (D (C U))) λA=>aW (D A) (jg G N l i k bp a A m) (aI m (G 23 [bp,Y [103,108,111,98,97,108]] m) λe L=>aQ e X L (bA (aK P 26 a 1)) λam s=>aQ e X s (qr (an P s 23 am)) λB u=>aQ e X u (λq=>gg (b2 P .empty .len [23] [B]) (b2 P u .len [23] [B]) q) λao M=>aQ e X M (bA (aq P .eql 3 X ao (I J 8))) λap n=>j (cB e (D ap) (D (C U))) λE=>aW (D E) (jg G N l i k bp a E n) (aI n (G 23 [bp,Y [102,117,110,99]] n) λh Q=>aQ h X Q (bA (aK P 26 a 2)) λau v=>aQ h X v (qr (an P v 24 au)) λF w=>aQ h X w (λq=>gg (b2 P .empty .len [24] [F]) (b2 P w .len [24] [F]) q) λav R=>aQ h X R (bA (aq P .eql 3 X av (I J 16))) λaw S=>j (cB h (D aw) (D (C U))) λax=>jg G N l i k bp a ax S))) (mb G N i k bp a p)
def lf(G:ay)(N:Nat):Nat->aa->aa->aa->aa->ae->O
 |0,_,_,_,_,_=>Z
 |n+1,a,c,bp,d,H=>sO G N (lf G N n) a c bp d H
def LZ(G:ay)(N:Nat)(a:aa->aa->aa->aa->ae->O):∀ad H,bo P G N (a6 (a6 (a6 (ak (ak (ak (ak (ak (bs Tryd.f9))))))))) (λad H=>a (ad 2) (ad 3) (ad 6) (ad 7) H) [(0,(λad H=>mb G N (ad 2) (ad 3) (ad 6) (ad 7) H))] (bh Tryd.f9) ad H=sO G N a (ad 2) (ad 3) (ad 6) (ad 7) H:=by
 refine bK ((aP ah ((dc ah ((dc ah ((aP ah (L1 G N a) (aH _))))))) (aH _))) λad H=> ?_
 delta sO;generalize mb G N=c;generalize jg G N a=d;revert c d;refine id ?_;intro c d;kernel_rfl
def qR(G:ay)(N:Nat)(ag:aa)(H:ae):O:=cg H [aa.ar,aa.ar,aa.ar] λi o=>cg o [I J 0,I J 0] λk l=>aI l (G 14 [ag] l) λn p=>j (eg n 0) λs=>j (eg n 1) λu=>cg p [I J 0,I J 0] λe m=>a7 m (aV P m 29 e u) λa=>j (aK P 29 e 0) λv=>j (an P a 27 v) λw=>j (aq P .neq 27 X w (I J 0)) λx=>aW (D x) (a7 a (aV P a 26 i (.agg [aa.ar,aa.ar,aa.ar])) λc=>j (an P c 29 e) λh=>a7 c (aV P c 29 k h) λd=>bif ((bj (an P a 29 e) h&&(bj (an P c 29 e) h&&X))&&X)then(j (an P d 26 i) λr=>j (an P d 29 k) λq=>D (.tuple [r,q],d))else Z) (j (cj P 59 [(0,s)]) λy=>bS a (dS (a).next y) λz c=>cg c [aa.ar,aa.ar,aa.ar] λA d=>lf G N N i k z A d)
def Ke(N:Nat){ag:aa}{H:ae}{r:aa×ae}(h:qR (aC P az) N ag H=D r):aC P az 9 [ag] H=D r:=cO N (S:=λG=>qR G N ag H) Tryd.func9 (λG=>dN ((aP ah ((aP ah ((aP ah ((aP ah ((aP ah ((aP ah (L0 G N) ((dc ah ((ei (k:=λm ad H=>lf G N m (ad 2) (ad 3) (ad 6) (ad 7) H) ah (λad H=>ah) (λm=>LZ G N (lf G N m)))))))) (aH _))) (aH _))) (aH _))) (aH _))) (aH _))) (by delta qR;generalize lf G N N=a;revert a;refine id ?_;intro a;kernel_rfl)) h
def k1(G:ay)(N:Nat)(ag d e:aa)(H:ae):O:=aI H (G 27 [ag,Y [125]] H) λi a=>j (an P a 65 e) λh=>a7 a (aV P a 65 d h) λc=>j (an P c 65 d) λr=>D (r,c)
def KI(G:ay)(N:Nat):∀ad H,bo P G N (ak (ak (ak (ak (ak (bs Tryd.f25)))))) (bh Tryd.f25) [] (bh Tryd.f25) ad H=k1 G N (ad 0) (ad 2) (ad 3) H:=by
 refine bK (aH _) λad H=> ?_
 delta k1;kernel_rfl
def sn(G:ay)(N:Nat)(x:aa->aa->aa->ae->O)(ag o c:aa)(H:ae):O:=aI H (G 21 [ag] H) λh y=>aQ h X y (ca ag) λbz m=>aQ h X m (λq=>eJ m (G 23 [bz,Y [125]] m) q) λF A=>aQ h X A (bA (e2 .not F)) λK n=>j (cB h (D K) (D (C U))) λL=>aW (D L) (aI n (G 22 [ag] n) λM B=>j (cA P 61 M 0) λQ=>j (aq P .eql 3 X Q (I J 1)) λe=>aQ e X B (bA (aK P 65 c 1)) λR u=>aQ e X u (qr (an P u 23 R)) λw v=>aQ e X v (λq=>gg (b2 P .empty .len [23] [w]) (b2 P v .len [23] [w]) q) λS E=>aQ e X E (bA (aq P .eql 3 X S (I J 8))) λT d=>j (cB e (D T) (D (C U))) λV=>aW (D V) (aI d (G 24 [ag,I J 4] d) λah a=>k1 G N ag o c a) (aI d (G 26 [ag] d) λW a=>j (aK P 65 c 1) λi=>j (an P a 23 i) λk=>bS a (bV P (a).next 23 1 [(0,W)]) λab l=>aI l (cQ P l [23,23] k ab) λad p=>j (aK P 65 c 1) λaf=>a7 p (aV P p 23 af ad) λs=>bif ((bj (an P d 23 i) k&&(bj (an P a 23 i) k&&(bj (an P l 23 i) k&&X)))&&X)then(aI s (G 27 [ag,Y [59]] s) λai z=>x ag o c z)else Z)) (k1 G N ag o c n)
def lT(G:ay)(N:Nat):Nat->aa->aa->aa->ae->O
 |0,_,_,_,_=>Z
 |n+1,ag,a,c,H=>sn G N (lT G N n) ag a c H
def KH(G:ay)(N:Nat)(c:aa->aa->aa->ae->O):∀ad H,bo P G N (a6 (a6 (a6 (ak (ak (ak (ak (bs Tryd.f25)))))))) (λad H=>c (ad 0) (ad 2) (ad 3) H) [(0,(λad H=>k1 G N (ad 0) (ad 2) (ad 3) H))] (bh Tryd.f25) ad H=sn G N c (ad 0) (ad 2) (ad 3) H:=by
 refine bK (aH _) λad H=> ?_
 delta sn;generalize k1 G N=a;revert a;refine id ?_;intro a;kernel_rfl
def sl(G:ay)(N:Nat)(ag:aa)(H:ae):O:=cg H [Y [],aa.ar,I J 0] λn c=>aI c (G 22 [ag] c) λo k=>j (cA P 61 o 3) λbp=>j (cj P 65 [(2,bp)]) λp=>cg k [Y [],aa.ar,I J 0] λa d=>a7 d (aV P d 65 a p) λe=>aI e (G 55 [ag] e) λq h=>j (aK P 65 a 0) λm=>a7 h (aV P h 9 m q) λi=>aI i (G 27 [ag,Y [123]] i) λs l=>lT G N N ag n a l
def JA(N:Nat){ag:aa}{H:ae}{r:aa×ae}(h:sl (aC P az) N ag H=D r):aC P az 25 [ag] H=D r:=cO N (S:=λG=>sl G N ag H) Tryd.func25 (λG=>dN ((aP ah ((aP ah ((aP ah ((aP ah ((aP ah (KI G N) ((dc ah ((ei (k:=λm ad H=>lT G N m (ad 0) (ad 2) (ad 3) H) ah (λad H=>ah) (λm=>KH G N (lT G N m)))))))) (aH _))) (aH _))) (aH _))) (aH _))) (by delta sl;generalize lT G N N=a;revert a;refine id ?_;intro a;kernel_rfl)) h
def so(G:ay)(ag:aa)(H:ae):O:=cg H [Y [],Y [],I J 0,I J 0] λo d=>aI d (G 22 [ag] d) λv p=>j (cA P 61 v 3) λbp=>j (cj P 68 [(2,bp)]) λw=>cg p [Y [],Y [],I J 0,I J 0] λa h=>a7 h (aV P h 68 a w) λi=>aI i (G 55 [ag] i) λx k=>j (aK P 68 a 0) λq=>a7 k (aV P k 9 q x) λl=>aI l (G 27 [ag,Y [58]] l) λy m=>aI m (G 53 [ag] m) λs n=>j (aK P 68 a 1) λu=>a7 n (aV P n 40 u s) λc=>j (an P c 68 a) λbz=>a7 c (aV P c 68 o bz) λe=>j (an P e 68 o) λr=>D (r,e)
def JB(N:Nat){ag:aa}{H:ae}{r:aa×ae}(h:so (aC P az) ag H=D r):aC P az 26 [ag] H=D r:=cO N (S:=λG=>so G ag H) Tryd.func26 (λ_=>by delta so;kernel_rfl) h
def nh(G:ay)(N:Nat)(ag e h:aa)(H:ae):O:=aI H (G 56 [ag] H) λi c=>j (aK P 73 h 4) λk=>a7 c (aV P c 71 k i) λa=>j (an P a 73 h) λl=>a7 a (aV P a 73 e l) λd=>j (an P d 73 e) λr=>D (r,d)
def KM(G:ay)(N:Nat):∀ad H,bo P G N (ak (ak (ak (ak (ak (ak (ak (bs Tryd.f28)))))))) (bh Tryd.f28) [] (bh Tryd.f28) ad H=nh G N (ad 0) (ad 2) (ad 3) H:=by
 refine bK (aH _) λad H=> ?_
 delta nh;kernel_rfl
def kj(G:ay)(N:Nat)(ag k c:aa)(H:ae):O:=aI H (G 27 [ag,Y [41]] H) λy d=>aI d (G 23 [ag,Y [58]] d) λm a=>aW (D m) (j (bW ag) λn=>j (aK P 59 n 1) λo=>j (an P a 3 o) λp=>j (aq P .add 3 X p (I J 1)) λq=>j (bW ag) λs=>j (aK P 59 s 1) λu=>a7 a (aV P a 3 u q) λe=>j (aK P 73 c 2) λv=>a7 e (aV P e 4 v (C X)) λh=>aI h (G 53 [ag] h) λw i=>j (aK P 73 c 3) λx=>a7 i (aV P i 40 x w) λl=>nh G N ag k c l) (nh G N ag k c a)
def KK(G:ay)(N:Nat):∀ad H,bo P G N (ak (ak (ak (ak (ak (bs Tryd.f28)))))) (bh Tryd.f28) [] (bh Tryd.f28) ad H=kj G N (ad 0) (ad 2) (ad 3) H:=by
 refine bK ((aP ah ((aP ah (KM G N) (aH _))) (aH _))) λad H=> ?_
 delta kj;generalize nh G N=a;revert a;refine id ?_;intro a;kernel_rfl
def sr(G:ay)(N:Nat)(m:aa->aa->aa->ae->O)(ag e a:aa)(H:ae):O:=aI H (G 21 [ag] H) λi B=>aQ i X B (ca ag) λbz s=>aQ i X s (λq=>eJ s (G 23 [bz,Y [41]] s) q) λM F=>aQ i X F (bA (e2 .not M)) λQ u=>j (cB i (D Q) (D (C U))) λR=>aW (D R) (aI u (G 22 [ag] u) λS K=>j (cA P 61 S 0) λT=>j (aq P .eql 3 X T (I J 1)) λh=>aQ h X K (bA (aK P 73 a 1)) λV y=>aQ h X y (qr (an P y 23 V)) λA z=>aQ h X z (λq=>gg (b2 P .empty .len [23] [A]) (b2 P z .len [23] [A]) q) λW L=>aQ h X L (bA (aq P .eql 3 X W (I J 6))) λab d=>j (cB h (D ab) (D (C U))) λad=>aW (D ad) (aI d (G 24 [ag,I J 4] d) λao c=>kj G N ag e a c) (aI d (G 26 [ag] d) λaf c=>j (aK P 73 a 1) λk=>j (an P c 23 k) λl=>bS c (bV P (c).next 23 1 [(0,af)]) λah n=>aI n (cQ P n [23,23] l ah) λai v=>j (aK P 73 a 1) λaj=>a7 v (aV P v 23 aj ai) λw=>bif ((bj (an P d 23 k) l&&(bj (an P c 23 k) l&&(bj (an P n 23 k) l&&X)))&&X)then(aI w (G 23 [ag,Y [41]] w) λak o=>j (e2 .not ak) λal=>aW (D al) (aI o (G 27 [ag,Y [44]] o) λap x=>aI x (G 23 [ag,Y [41]] x) λam p=>aW (D am) (aI p (G 24 [ag,I J 2] p) λau E=>m ag e a E) (m ag e a p)) (m ag e a o))else Z)) (kj G N ag e a u)
def kk(G:ay)(N:Nat):Nat->aa->aa->aa->ae->O
 |0,_,_,_,_=>Z
 |n+1,ag,a,c,H=>sr G N (kk G N n) ag a c H
def KJ(G:ay)(N:Nat)(c:aa->aa->aa->ae->O):∀ad H,bo P G N (a6 (a6 (a6 (ak (ak (ak (ak (bs Tryd.f28)))))))) (λad H=>c (ad 0) (ad 2) (ad 3) H) [(0,(λad H=>kj G N (ad 0) (ad 2) (ad 3) H))] (bh Tryd.f28) ad H=sr G N c (ad 0) (ad 2) (ad 3) H:=by
 refine bK (aH _) λad H=> ?_
 delta sr;generalize kj G N=a;revert a;refine id ?_;intro a;kernel_rfl
def sq(G:ay)(N:Nat)(ag:aa)(H:ae):O:=cg H [Y [],aa.ar,C U,Y [],I J 0,aa.ar,I J 0] λn c=>aI c (G 22 [ag] c) λo k=>j (cA P 61 o 3) λbp=>j (cj P 73 [(5,bp)]) λp=>cg k [Y [],aa.ar,C U,Y [],I J 0,aa.ar,I J 0] λa d=>a7 d (aV P d 73 a p) λe=>aI e (G 55 [ag] e) λq h=>j (aK P 73 a 0) λm=>a7 h (aV P h 9 m q) λi=>aI i (G 27 [ag,Y [40]] i) λs l=>kk G N N ag n a l
def JD(N:Nat){ag:aa}{H:ae}{r:aa×ae}(h:sq (aC P az) N ag H=D r):aC P az 28 [ag] H=D r:=cO N (S:=λG=>sq G N ag H) Tryd.func28 (λG=>dN ((aP ah ((aP ah ((aP ah ((aP ah ((aP ah (KK G N) ((dc ah ((ei (k:=λm ad H=>kk G N m (ad 0) (ad 2) (ad 3) H) ah (λad H=>ah) (λm=>KJ G N (kk G N m)))))))) (aH _))) (aH _))) (aH _))) (aH _))) (by delta sq;generalize kk G N N=a;revert a;refine id ?_;intro a;kernel_rfl)) h
end
end
section
variable {H H':ae}{r:Nat}{T:List Tok}{ao:aa}{s s':aw}
def vE(h:bI H r T ao s):W (aC P az 26 [.ptr r 0 0] H) λv H'=>v= .agg (dD T s).1.cells/\b5 r H H'/\bI H' r T ao (dD T s).2:=by
 refine cz (λ_=>JB 0) ?_;have ap:=h.rd.lt;have c:=aO.push H (.row U 4 [[Y [],Y [],I J 0,I J 0]]);have G:=ae.bC H (.row U 4 [[Y [],Y [],I J 0,I J 0]]);simp-implicitDefEqProofs(disch:=try exact al)only[so,bf,br,List.length_cons,List.length_nil,Nat.zero_add,Nat.reduceAdd];refine aN (hv (h.rd.aM c) (h.aM c).bx) ?_;rintro _ H1 ⟨rfl,a⟩;refine⟨a.1,?_⟩;have ad:=a.1;simp only[ae.bT]at ad;have E:=(h.aM c).aM a;have K:=a.get G;unfold dD dX;generalize au T s.at_=q;obtain⟨k,x,z,p⟩:=q;have j:=aO.push H1 (.row U 4 [[Y [],Y [],I J 0,I J p]]);have O:=ae.bC H1 (.row U 4 [[Y [],Y [],I J 0,I J p]])
 simp-implicitDefEqProofs(disch:=try exact al)only[bf,br,dR,an,cD,aV,cD,Nat.reduceAdd,Nat.reduceLeDiff,reduceIte,aa.cells,cI,dA,dq,ae.hr,Tok.v];refine aN (lN (E.aM j)) ?_;rintro _ m ⟨rfl,m3,e⟩;refine⟨m3.1,?_⟩;have ag:=m3.1;simp only[ae.bT]at ag;have L:=m3.get (j.get K) af;have u:=m3.get O af;have dI:=ae.aS u;generalize bu T s=ai at e ⊢;obtain⟨ch,e4⟩:=ai;simp only at e ⊢;have S:=((((c.mut (· =r)).trans (a.mut _)).trans (j.mut _)).trans m3);have A:=S.cw (l:=H1.next) (.inr af) (.row U 4 [[Y ch,Y [],I J 0,I J p]]);have F:=h.mut A (show bw _ r ao e4 by unfold bw;rw[ae.get_set_other af];exact e.rd)
 have M:(m.set H1.next (.row U 4 [[Y ch,Y [],I J 0,I J p]])).get H.next=D (.row U 4 [[Y [],Y [],I J 0,I J 0]]):=by rw[ae.get_set_other af];exact L
 have Q:(m.set H1.next (.row U 4 [[Y ch,Y [],I J 0,I J p]])).get H1.next=D (.row U 4 [[Y ch,Y [],I J 0,I J p]]):=ae.get_set_same dI
 simp-implicitDefEqProofs(disch:=try exact al)only[bf,br,dR,an,cD,aV,cD,Nat.reduceAdd,Nat.reduceLeDiff,reduceIte,aa.cells,cI,dA,dq,u];refine aN (gf F [58] (by simp)) ?_;rintro _ ak ⟨rfl,m5,n⟩;refine⟨m5.1,?_⟩;have ah:=m5.1;simp only[ae.dj]at ah;have N:=m5.get M af;have R:=m5.get Q af;generalize bl T [58] e4=aj at n ⊢;simp-implicitDefEqProofs(disch:=try exact al)only[bf,br];refine aN (qH n) ?_;rintro _ am ⟨rfl,m6,i⟩;refine⟨m6.1,?_⟩;have aw:=m6.1;have o:=m6.get N af;have w:=m6.get R af;have aq:=ae.aS o;have av:=ae.aS w;generalize cM T aj=ai at i ⊢;obtain⟨⟨y,d⟩,km⟩:=ai;simp only at i ⊢;have V:=(A.trans m5).trans m6
 have ab:=V.cw (l:=H1.next) (.inr af) (.row U 4 [[Y ch,Y y,I J d,I J p]]);have B:=ab.cw (l:=H.next) (.inr (bk _)) (.row U 4 [[Y ch,Y y,I J d,I J p]]);simp-implicitDefEqProofs(disch:=try exact al)only[reduceAdd,reduceLeDiff,reduceIte,ax,o,w];exact bb.2 ⟨rfl,B,h.mut B (by unfold bw;rw[ae.get_set_other af,ae.get_set_other af];exact i.rd)⟩
end
section
variable {H H' H1:ae}{r:Nat}{T:List Tok}{ao:aa}{s s':aw}
def bI.mC{s0:aw}(h:bI H1 r T ao s0)(m:hX r H1.next H1 H')(a:bw H' r ao s'):bI H' r T ao s':=
 ⟨a,h.bx.aX λl ro els e=>m.get e (by
  have:=ae.aS e;rintro(rfl|c)
  ·rw[h.rd]at e;simp only[aU,bO.row.injEq]at e;omega
  ·omega)⟩
structure fB(H1 H:ae)(r b c n2 esz:Nat)(T:List Tok)(ao:aa)(z:List aa)(x:aa)(rest:List aa)(l:List b7)(v:aa)(s:aw):Prop where
 cC:bI H r T ao s
 two:H.get b=some (.row false esz [z])
 cell:H.get c=some (.row false esz [x::v::rest])
 gj:c0 fE (bg n2) H l v
 m:hX r H1.next H1 H
 bH:r<H1.next
 bX:H1.next<=b
 iF:b<c
 ck:c<n2
 dr:n2<=H.next
variable {b c n2 esz:Nat}{z:List aa}{x:aa}{rest:List aa}{l:List b7}{v:aa}
def fB.mut(h:fB H1 H r b c n2 esz T ao z x rest l v s)(m:b5 r H H')(cC:bI H' r T ao s'):fB H1 H' r b c n2 esz T ao z x rest l v s':=by
 have bH:=h.bH;have bX:=h.bX;have ck:=h.ck;have dr:=h.dr;have iF:=h.iF;exact⟨cC,m.get h.two af,m.get h.cell af,h.gj.aX (df.mut m λk a=>by unfold bg at a;omega),h.m.trans m.rV,bH,bX,iF,ck,by have:=m.1;omega⟩
def fB.add{s0:aw}(u:bI H1 r T ao s0)(h:fB H1 H r b c n2 esz T ao z x rest l v s)(w:l.length<=1000000000)(p:b7):
  ∃i H',cQ P (H.push (.row U 4 [p.cells])) [23,23] v (.aA H.next 0 1 4 (D 1))=D (i,H')/\H.next+1<=H'.next/\i.one=X/\H'.get c=D (.row U esz [x::v::rest])/\(H.push (.row U 4 [p.cells])).get c=D (.row U esz [x::v::rest])/\fB H1 (H'.set c (.row U esz [x::i::rest])) r b c n2 esz T ao z x rest (l++[p]) i s:=by
 have bH:=h.bH;have bX:=h.bX;have ck:=h.ck;have dr:=h.dr;have iF:=h.iF;obtain⟨i,H',a,n,q,d⟩:=h.gj.pm p (by unfold bg;omega) w;have gc:H'.get c=D (.row U esz [x::v::rest]):=by rw[d c af (by unfold bg;omega)];exact h.cell
 have lc:=ae.aS gc;have o:hX r H1.next H1 (H'.set c (.row U esz [x::i::rest])):=h.m.trans ⟨by simp;omega,λk j aB=>by
  have y:k≠r:=λe=>aB (.inl e)
  have A:¬H1.next<=k:=λe=>aB (.inr e)
  rw[ae.get_set_other af,d k j (by unfold bg;omega)]⟩
 refine⟨i,H',a,q,n.one,gc,(aO.push _ _).get h.cell,?_,by rw[ae.get_set_other af,d b af (by unfold bg;omega)];exact h.two,ae.get_set_same lc,n.aX λk x j g=>⟨j,by unfold bg at j;rw[ae.get_set_other af];exact g⟩,o,bH,bX,iF,ck,by simp;omega⟩;exact u.mC o (by unfold bw;rw[ae.get_set_other af,d r af (by unfold bg;omega)];exact h.cC.rd)
def CN{N:Nat}{Q:aa->ae->Prop}{ch:aJ}{aj:Int}{s0:aw}(V:bI H1 r T ao s0){l':List b7}
  (x:∀H v,fB H1 H r b c n2 3 T ao z (Y ch) [I J aj] l' v s'->W (k1 (aC P az) N (.ptr r 0 0) (.ptr b 0 0) (.ptr c 0 0) H) Q):
  ∀(n m:Nat) (H:ae) (s:aw) (l:List b7) (v:aa),n<m->l.length+n<=1000000000->fB H1 H r b c n2 3 T ao z (Y ch) [I J aj] l v s->oa T n l s=D (l',s')->W (lT (aC P az) N m (.ptr r 0 0) (.ptr b 0 0) (.ptr c 0 0) H) Q
 |_,0,_,_,_,_,aE,_,_,_=>af
 |0,m+1,_,_,_,_,_,_,_,a=>by cases a
 |n+1,m+1,H,s,l,v,aE,a3,h,a=>by
  rw[oa]at a;rw[lT];unfold sn;refine aN (jJ h.cC.rd) ?_;rintro _ aX ⟨rfl,rfl⟩;refine⟨bk _,?_⟩;by_cases S:s.aF=0
  ·have e:(s.aF==0)=true:=by simpa using S
   simp-implicitDefEqProofs(disch:=try exact al)only[bf,br,e];refine iR (dk h.cC.rd h.cC.bx [125] (by simp)) ?_;rintro _ aZ ⟨rfl,L⟩;refine⟨L.1,?_⟩;have o:=h.mut (L.mut _) (h.cC.aM L);rw[e,Bool.true_and]at a;cases ai:a1 T s [125]with
   |true=>
    rw[ai]at a;cases a;simp-implicitDefEqProofs(disch:=try exact al)only[bf,br,e,Bool.not_true];exact x _ _ o
   |false=>
    rw[ai,Bool.not_false,aY]at a;simp-implicitDefEqProofs(disch:=try exact al)only[bf,br,e,Bool.not_false];refine aN (hv o.cC.rd o.cC.bx) ?_;rintro _ k ⟨rfl,M⟩;refine⟨M.1,?_⟩;have d:=o.mut (M.mut _) (o.cC.aM M);have K:=λH'=>d.gj.mI H'
    have a4:=d.gj.rd;have y:=d.cell;have a5:=d.gj.one;have go:((au T s.at_).kind==1&&l.length==8)=X->W (aI k (aC P az 24 [.ptr r 0 0,I J 4] k) λa6 i=>k1 (aC P az) N (.ptr r 0 0) (.ptr b 0 0) (.ptr c 0 0) i) Q:=λhm=>by
     rw[hm,aY]at a;cases a;refine aN (jI d.cC 4) ?_;rintro _ a0 ⟨rfl,m5,aL⟩;exact⟨m5.1,x _ _ (d.mut m5 aL)⟩
    have on:((au T s.at_).kind==1&&l.length==8)=U->W (aI k (aC P az 26 [.ptr r 0 0] k) λaR i=>
      j (aK P 65 (.ptr c 0 0) 1) λB=>j (an P i 23 B) λE=>bS i (bV P (i).next 23 1 [(0,aR)]) λaS F=>aI F (cQ P F [23,23] E aS) λaU ab=>j (aK P 65 (.ptr c 0 0) 1) λaW=>a7 ab (aV P ab 23 aW aU) λad=>
      bif ((bj (an P k 23 B) E&&(bj (an P i 23 B) E&&(bj (an P F 23 B) E&&X)))&&X)then(aI ad (aC P az 27 [.ptr r 0 0,Y [59]] ad) λa8 aB=>lT (aC P az) N m (.ptr r 0 0) (.ptr b 0 0) (.ptr c 0 0) aB)else Z) Q:=λhm=>by
     rw[hm,aT]at a;refine aN (vE d.cC) ?_;rintro _ O ⟨rfl,m6,aO⟩;refine⟨m6.1,?_⟩;have w:=d.mut m6 aO;have aD:=w.cell;have aG:=w.gj.rd;generalize dD T s=q at w a;obtain⟨p,km⟩:=q;obtain⟨aQ,ak,av,ay,R,ap,aq,ag⟩:=w.add V af p;have aH:=qV qi O.next (cs:=p.cells) rfl rfl
     have a2:(O.push (.row U 4 [p.cells])).next<=ak.next:=by simp only[ae.bT];exact ay
     have ah:=h2 R;simp only[aa.cells]at ah;simp-implicitDefEqProofs(disch:=try exact al)only[bf,br,dR,an,cD,aV,cD,Nat.reduceAdd,Nat.reduceLeDiff,reduceIte,aa.cells,cI,dA,dq,ah,aD,aH,av,eI,ap,aq,R,aG,y];refine aN (gf ag.cC [59] (by simp)) ?_;rintro _ am ⟨rfl,m8,aP⟩;refine⟨m8.1,?_⟩;exact CN V x n m am _ _ aQ af (by simp;omega) (ag.mut m8 aP) a
    cases u:(au T s.at_).kind==1 with
    |true=>
     rw[u]at go on;cases A:l.length==8 with
     |true=>
      have G:((l.length:Int)==8)=true:=by
       have:l.length=8:=by simpa using A
       simp;omega
      rw[A]at go;simp-implicitDefEqProofs(disch:=try exact al)only[reduceAdd,reduceLeDiff,reduceIte,ax,Tok.v,y,K,u,G];exact go rfl
     |false=>
      have G:((l.length:Int)==8)=false:=by
       have:l.length≠8:=by simpa using A
       simp;omega
      rw[A]at on;simp-implicitDefEqProofs(disch:=try exact al)only[reduceAdd,reduceLeDiff,reduceIte,ax,Tok.v,y,K,u,G];exact on rfl
    |false=>
     rw[u]at on;simp-implicitDefEqProofs(disch:=try exact al)only[reduceAdd,reduceLeDiff,reduceIte,ax,Tok.v,y,K,u];exact on rfl
  ·have e:(s.aF==0)=false:=by simpa using S
   rw[e]at a;cases a;simp-implicitDefEqProofs(disch:=try exact al)only[bf,br,e];exact x _ _ h
end
section
variable {H H' H1:ae}{r:Nat}{T:List Tok}{ao:aa}{s s':aw}
def hX.mt(m:hX r H.next H H'):b5 r H H':=⟨m.1,λl a aB=>m.2 l a λe=>by
 rcases e with e|e
 ·exact aB e
 ·omega⟩
def Jn{n:Nat}(ay:n<=1000000000)(h:bI H r T ao s){x:e0}(E:mU T n s=D (x,s')):W (aC P az 25 [.ptr r 0 0] H) λv H'=>(∃cs,v= .agg cs/\iC.V H' (bg H.next) x cs)/\b5 r H H'/\bI H' r T ao s':=by
 refine cz (λ_=>JA (n+1)) ?_;have ax:=h.rd.lt;unfold mU at E;obtain⟨⟨l',N⟩,j,F⟩:=cR.1 E;simp only[aU,bY]at F;obtain⟨rfl,rfl⟩:=F;have d:=aO.push H (.row U 3 [[Y [],.ar,I J 0]]);have ab:=ae.bC H (.row U 3 [[Y [],.ar,I J 0]]);simp-implicitDefEqProofs(disch:=try exact al)only[sl,bf,br,List.length_cons,List.length_nil,Nat.zero_add,Nat.reduceAdd];refine aN (hv (h.rd.aM d) (h.aM d).bx) ?_;rintro _ H1 ⟨rfl,c⟩;refine⟨c.1,?_⟩;have aD:=c.1;simp only[ae.bT]at aD;have O:=(h.aM d).aM c;have ad:=c.get ab;generalize au T s.at_=q;obtain⟨k,x,z,p⟩:=q;have o:=aO.push H1 (.row U 3 [[Y [],.ar,I J p]])
 have am:=ae.bC H1 (.row U 3 [[Y [],.ar,I J p]]);simp-implicitDefEqProofs(disch:=try exact al)only[bf,br,dR,an,cD,aV,cD,Nat.reduceAdd,Nat.reduceLeDiff,reduceIte,aa.cells,cI,dA,dq,ae.hr,Tok.v];refine aN (lN (O.aM o)) ?_;rintro _ u ⟨rfl,m3,i⟩;refine⟨m3.1,?_⟩;have aE:=m3.1;simp only[ae.bT]at aE;have ag:=m3.get (o.get ad) af;have B:=m3.get am af;have dI:=ae.aS B;generalize bu T s=ai at i j ⊢;obtain⟨ch,e4⟩:=ai;simp only at i j ⊢;have aB:=((((d.mut (· =r)).trans (c.mut _)).trans (o.mut _)).trans m3);have K:=aB.cw (l:=H1.next) (.inr af) (.row U 3 [[Y ch,.ar,I J p]]);have Q:=h.mut K (show bw _ r ao e4 by unfold bw;rw[ae.get_set_other af];exact i.rd)
 have ah:(u.set H1.next (.row U 3 [[Y ch,.ar,I J p]])).get H.next=D (.row U 3 [[Y [],.ar,I J 0]]):=by rw[ae.get_set_other af];exact ag
 have ap:(u.set H1.next (.row U 3 [[Y ch,.ar,I J p]])).get H1.next=D (.row U 3 [[Y ch,.ar,I J p]]):=ae.get_set_same dI
 simp-implicitDefEqProofs(disch:=try exact al)only[bf,br,dR,an,cD,aV,cD,Nat.reduceAdd,Nat.reduceLeDiff,reduceIte,aa.cells,cI,dA,dq,B];refine aN (gf Q [123] (by simp)) ?_;rintro _ e ⟨rfl,m5,R⟩;refine⟨m5.1,?_⟩;have aF:=m5.1;simp only[ae.dj]at aF;have aj:=m5.get ah af;have aq:=m5.get ap af;have gl:fB H e r H.next H1.next e.next 3 T ao [Y [],.ar,I J 0] (Y ch) [I J p] [] .ar (bl T [123] e4):=⟨R,aj,aq,.nil,b5.rV (K.trans m5),ax,bk _,af,af,bk _⟩
 refine CN h (s':=N) (l':=l') (λaG v y=> ?_) n (n+1) e _ [] .ar (Nat.lt_succ_self _) (by simpa using ay) gl j;unfold k1;refine aN (gf y.cC [125] (by simp)) ?_;rintro _ w ⟨rfl,m7,kc⟩;refine⟨m7.1,?_⟩;have a:=y.mut m7 kc;have A:=a.two;have av:=a.cell;have M:=a.gj.one;have aH:=ae.aS A;have aw:=h2 M;simp only[aa.cells]at aw;have L:hX r H.next H (w.set H.next (.row U 3 [[Y ch,v,I J p]])):=a.m.cw (.inr (bk _)) _
 have S:=h.mC L (s':=bl T [125] N) (by unfold bw;rw[ae.get_set_other af];exact a.cC.rd);have ak:c0 fE (bg H.next) (w.set H.next (.row U 3 [[Y ch,v,I J p]])) l' v:=a.gj.aX λk x G g=>⟨by unfold bg at G ⊢;omega,by have:=a.dr;unfold bg at G;rw[ae.get_set_other af];exact g⟩
 simp-implicitDefEqProofs(disch:=try exact al)only[bf,br,dR,an,cD,aV,cD,Nat.reduceAdd,Nat.reduceLeDiff,reduceIte,aa.cells,cI,dA,dq,A,av,M];exact bb.2 ⟨⟨_,rfl,v,rfl,ak.aA⟩,L.mt,S⟩
end
section
set_option maxRecDepth 100000
noncomputable section
def ns(G:ay)(N:Nat)(ag c:aa)(H:ae):O:=aI H (G 79 [ag,Y [125]] H) λd a=>D (c,a)
def Lo(G:ay)(N:Nat):∀ad H,bo P G N (ak (ak (ak (ak (bs Tryd.f56))))) (bh Tryd.f56) [] (bh Tryd.f56) ad H=ns G N (ad 0) (ad 3) H:=by
 refine bK (aH _) λad H=> ?_
 delta ns;kernel_rfl
def sF(G:ay)(N:Nat)(k:aa->aa->ae->O)(ag i:aa)(H:ae):O:=aI H (G 21 [ag] H) λa l=>aQ a X l (ca ag) λw c=>aQ a X c (λq=>eJ c (G 23 [w,Y [125]] c) q) λo m=>aQ a X m (bA (e2 .not o)) λp d=>j (cB a (D p) (D (C U))) λs=>aW (D s) (aI d (G 78 [ag] d) λu e=>bS e (bV P (e).next 71 1 [(0,u)]) λbz h=>aI h (cQ P h [71,71] i bz) λv n=>k ag v n) (ns G N ag i d)
def nt(G:ay)(N:Nat):Nat->aa->aa->ae->O
 |0,_,_,_=>Z
 |n+1,ag,a,H=>sF G N (nt G N n) ag a H
def Ln(G:ay)(N:Nat)(c:aa->aa->ae->O):∀ad H,bo P G N (a6 (a6 (a6 (ak (ak (ak (bs Tryd.f56))))))) (λad H=>c (ad 0) (ad 3) H) [(0,(λad H=>ns G N (ad 0) (ad 3) H))] (bh Tryd.f56) ad H=sF G N c (ad 0) (ad 3) H:=by
 refine bK (aH _) λad H=> ?_
 delta sF;generalize ns G N=a;revert a;refine id ?_;intro a;kernel_rfl
def sE(G:ay)(N:Nat)(ag:aa)(H:ae):O:=aI H (G 77 [ag,Y [123]] H) λc a=>nt G N N ag aa.ar a
def JV(N:Nat){ag:aa}{H:ae}{r:aa×ae}(h:sE (aC P az) N ag H=D r):aC P az 56 [ag] H=D r:=cO N (S:=λG=>sE G N ag H) Tryd.func56 (λG=>dN ((aP ah ((aP ah ((aP ah ((aP ah (Lo G N) ((dc ah ((ei (k:=λm ad H=>nt G N m (ad 0) (ad 3) H) ah (λad H=>ah) (λm=>Ln G N (nt G N m)))))))) (aH _))) (aH _))) (aH _))) (by delta sE;generalize nt G N N=a;revert a;refine id ?_;intro a;kernel_rfl)) h
def gd(G:ay)(c e:aa)(H:ae):O:=j (an P H 112 e) λd=>a7 H (aV P H 112 c d) λa=>j (an P a 112 c) λr=>D (r,a)
def LJ(G:ay)(N:Nat):∀ad H,bo P G N (ak (ak (ak (ak (bs Tryd.f78))))) (bh Tryd.f78) [] (bh Tryd.f78) ad H=gd G (ad 2) (ad 4) H:=by
 refine bK (aH _) λad H=> ?_
 delta gd;kernel_rfl
def nB(G:ay)(ag c d:aa)(H:ae):O:=aI H (G 27 [ag,Y [59]] H) λe a=>gd G c d a
def LL(G:ay)(N:Nat):∀ad H,bo P G N (ak (ak (ak (ak (ak (ak (a6 (ak (a6 (a6 (ak (ak (ak (bs Tryd.f78)))))))))))))) (λad H=>gd G (ad 2) (ad 4) H) [(0,(λad H=>gd G (ad 2) (ad 4) H))] (bh Tryd.f78) ad H=nB G (ad 0) (ad 2) (ad 4) H:=by
 refine bK (aH _) λad H=> ?_
 delta nB;generalize gd G=a;revert a;refine id ?_;intro a;kernel_rfl
def nC(G:ay)(ag c d:aa)(H:ae):O:=aI H (G 27 [ag,Y [59]] H) λe a=>gd G c d a
def LN(G:ay)(N:Nat):∀ad H,bo P G N (ak (ak (ak (a6 (ak (ak (ak (ak (ak (ak (ak (a6 (a6 (ak (ak (ak (bs Tryd.f78))))))))))))))))) (λad H=>gd G (ad 2) (ad 4) H) [(0,(λad H=>gd G (ad 2) (ad 4) H))] (bh Tryd.f78) ad H=nC G (ad 0) (ad 2) (ad 4) H:=by
 refine bK (aH _) λad H=> ?_
 delta nC;generalize gd G=a;revert a;refine id ?_;intro a;kernel_rfl
def ld(G:ay)(ag n:aa)(aw a ah:aa)(H:ae):O:=aW (D ah) (j (bW ag) λai=>j (aK P 59 ai 1) λaj=>j (an P H 3 aj) λak=>j (aq P .add 3 X ak (I J 1)) λal=>j (bW ag) λam=>j (aK P 59 am 1) λao=>a7 H (aV P H 3 ao al) λo=>j (aK P 112 a 0) λap=>a7 o (aV P o 3 ap (I J 1)) λm=>aI m (G 55 [ag] m) λau i=>j (aK P 112 a 1) λav=>a7 i (aV P i 9 av au) λc=>aI c (G 27 [ag,Y [58]] c) λbp e=>aI e (G 53 [ag] e) λax d=>j (aK P 112 a 2) λaz=>a7 d (aV P d 40 az ax) λh=>j (aK P 61 aw 1) λaB=>j (an P h 9 aB) λaC=>j (aq P .eql 9 X aC (Y [108,101,116])) λaD=>aW (D aD) (j (aK P 112 a 0) λaE=>a7 h (aV P h 3 aE (I J 2)) λk=>aI k (G 27 [ag,Y [61]] k) λbq l=>aI l (G 40 [ag,I J 0] l) λaF p=>bS p (bV P (p).next 41 1 [(0,aF)]) λaG q=>j (aK P 112 a 3) λaH=>a7 q (aV P q 41 aH aG) λs=>nB G ag n a s) (nB G ag n a h)) (aI H (G 23 [ag,Y [105,102]] H) λaJ o=>aW (D aJ) (j (bW ag) λaL=>j (aK P 59 aL 1) λaM=>j (an P o 3 aM) λaN=>j (aq P .add 3 X aN (I J 1)) λaO=>j (bW ag) λaP=>j (aK P 59 aP 1) λaQ=>a7 o (aV P o 3 aQ aO) λm=>j (aK P 112 a 0) λaR=>a7 m (aV P m 3 aR (I J 5)) λi=>aI i (G 40 [ag,I J 0] i) λaS c=>bS c (bV P (c).next 41 1 [(0,aS)]) λaT e=>j (aK P 112 a 3) λaU=>a7 e (aV P e 41 aU aT) λd=>aI d (G 56 [ag] d) λaX h=>j (aK P 112 a 4) λaY=>a7 h (aV P h 71 aY aX) λk=>aI k (G 23 [ag,Y [101,108,115,101]] k) λaZ l=>aW (D aZ) (j (bW ag) λa0=>j (aK P 59 a0 1) λa1=>j (an P l 3 a1) λa2=>j (aq P .add 3 X a2 (I J 1)) λa3=>j (bW ag) λa4=>j (aK P 59 a4 1) λa5=>a7 l (aV P l 3 a5 a3) λp=>aI p (G 56 [ag] p) λa6 q=>j (aK P 112 a 5) λa8=>a7 q (aV P q 71 a8 a6) λs=>gd G n a s) (gd G n a l)) (aI o (G 23 [ag,Y [119,104,105,108,101]] o) λa9 m=>aW (D a9) (j (bW ag) λa_=>j (aK P 59 a_ 1) λba=>j (an P m 3 ba) λbb=>j (aq P .add 3 X bb (I J 1)) λbc=>j (bW ag) λbd=>j (aK P 59 bd 1) λbe=>a7 m (aV P m 3 be bc) λi=>j (aK P 112 a 0) λbf=>a7 i (aV P i 3 bf (I J 6)) λc=>aI c (G 40 [ag,I J 0] c) λbg e=>bS e (bV P (e).next 41 1 [(0,bg)]) λbh d=>j (aK P 112 a 3) λbi=>a7 d (aV P d 41 bi bh) λh=>aI h (G 56 [ag] h) λbj k=>j (aK P 112 a 4) λbk=>a7 k (aV P k 71 bk bj) λl=>gd G n a l) (aI m (G 23 [ag,Y [114,101,116,117,114,110]] m) λbl i=>aW (D bl) (j (bW ag) λbm=>j (aK P 59 bm 1) λbn=>j (an P i 3 bn) λu=>j (aq P .add 3 X u (I J 1)) λv=>j (bW ag) λw=>j (aK P 59 w 1) λx=>a7 i (aV P i 3 x v) λc=>j (aK P 112 a 0) λy=>a7 c (aV P c 3 y (I J 7)) λe=>aI e (G 23 [ag,Y [59]] e) λz d=>j (e2 .not z) λA=>aW (D A) (aI d (G 40 [ag,I J 0] d) λB h=>bS h (bV P (h).next 41 1 [(0,B)]) λF k=>j (aK P 112 a 3) λK=>a7 k (aV P k 41 K F) λl=>nC G ag n a l) (nC G ag n a d)) (aI i (G 23 [ag,Y [112,114,105,110,116]] i) λL c=>aW (D L) (j (bW ag) λM=>j (aK P 59 M 1) λN=>j (an P c 3 N) λR=>j (aq P .add 3 X R (I J 1)) λS=>j (bW ag) λT=>j (aK P 59 T 1) λV=>a7 c (aV P c 3 V S) λe=>j (aK P 112 a 0) λW=>a7 e (aV P e 3 W (I J 8)) λd=>aI d (G 40 [ag,I J 0] d) λab h=>bS h (bV P (h).next 41 1 [(0,ab)]) λad k=>j (aK P 112 a 3) λaf=>a7 k (aV P k 41 af ad) λl=>aI l (G 27 [ag,Y [59]] l) λbo p=>gd G n a p) (j (an P c 112 a) λE=>aI c (G 89 [ag,E] c) λQ e=>a7 e (aV P e 112 n Q) λd=>j (an P d 112 n) λr=>D (r,d))))))
def LK(G:ay)(N:Nat):∀ad H,bo P G N (ak (a6 (a6 (ak (ak (ak (bs Tryd.f78))))))) (λad H=>gd G (ad 2) (ad 4) H) [(0,(λad H=>gd G (ad 2) (ad 4) H))] (bh Tryd.f78) ad H=ld G (ad 0) (ad 2) (ad 3) (ad 4) (ad 13) H:=by
 refine bK ((dt ah ((aP ah ((aP ah ((aP ah ((aP ah ((aP ah ((aP ah (LL G N) (aH _))) (aH _))) (aH _))) (aH _))) (aH _))) (aH _))) ((aP ah ((dt ah (aH _) ((aP ah ((dt ah (aH _) ((aP ah ((dt ah ((aP ah ((aP ah ((aP ah (LN G N) (aH _))) (aH _))) (aH _))) (aH _))) (aH _))))) (aH _))))) (aH _))))) λad H=> ?_
 delta ld;generalize nC G=a;generalize gd G=c;generalize nB G=d;revert a c d;refine id ?_;intro a c d;kernel_rfl
def qO(G:ay)(ag:aa)(H:ae):O:=cg H [I J 0,Y [],Y [],I J 0,aa.ar,aa.ar,aa.ar,I J 0,I J 0] λn e=>aI e (G 22 [ag] e) λbp o=>cg o [I J 0,Y [],I J 0,I J 0] λa h=>a7 h (aV P h 61 a bp) λi=>j (aK P 61 a 3) λs=>j (an P i 3 s) λu=>j (cj P 112 [(6,u)]) λv=>cg i [I J 0,Y [],Y [],I J 0,aa.ar,aa.ar,aa.ar,I J 0,I J 0] λd k=>a7 k (aV P k 112 d v) λl=>aI l (G 23 [ag,Y [118,97,114]] l) λm c=>aW (D m) (ld G ag n a d m c) (aI c (G 23 [ag,Y [108,101,116]] c) λq p=>ld G ag n a d q p)
def J9(N:Nat){ag:aa}{H:ae}{r:aa×ae}(h:qO (aC P az) ag H=D r):aC P az 78 [ag] H=D r:=cO N (S:=λG=>qO G ag H) Tryd.func78 (λG=>dN ((aP ah ((aP ah ((aP ah ((aP ah (LJ G N) ((dc ah ((aP ah (LK G N) (aH _))))))) (aH _))) (aH _))) (aH _))) (by delta qO;generalize ld G=a;revert a;refine id ?_;intro a;kernel_rfl)) h
def l_(G:ay)(ag c:aa)(k l:aa)(H:ae):O:=aI H (G 27 [ag,Y [61]] H) λT m=>aI m (G 40 [ag,I J 0] m) λs q=>cg q [I J 0,I J 0,Y [],Y [],I J 0,aa.ar,I J 0,I J 0,I J 0,I J 0,I J 0] λbp o=>a7 o (aV P o 45 bp s) λp=>aI p (G 27 [ag,Y [59]] p) λV i=>j (aK P 45 l 0) λu=>j (an P i 3 u) λv=>j (aq P .eql 3 X v (I J 4)) λw=>aW (D w) (j (aK P 112 c 0) λx=>a7 i (aV P i 3 x (I J 3)) λa=>j (aK P 45 l 2) λy=>j (an P a 9 y) λz=>j (aK P 112 c 1) λA=>a7 a (aV P a 9 A z) λd=>j (an P d 45 bp) λB=>bS d (bV P (d).next 41 1 [(0,B)]) λE e=>j (aK P 112 c 3) λF=>a7 e (aV P e 41 F E) λh=>j (an P h 112 c) λK=>a7 h (aV P h 112 k K) λn=>j (an P n 112 k) λr=>D (r,n)) (j (aK P 112 c 0) λL=>a7 i (aV P i 3 L (I J 4)) λa=>j (an P a 45 l) λM=>j (an P a 45 bp) λN=>bS a (bV P (a).next 41 2 [(0,M),(1,N)]) λQ d=>j (aK P 112 c 3) λR=>a7 d (aV P d 41 R Q) λe=>j (an P e 112 c) λS=>a7 e (aV P e 112 k S) λh=>j (an P h 112 k) λr=>D (r,h))
def LV(G:ay)(N:Nat):∀ad H,bo P G N (ak (ak (ak (ak (bs Tryd.f89))))) (bh Tryd.f89) [] (bh Tryd.f89) ad H=l_ G (ad 0) (ad 3) (ad 4) (ad 5) H:=by
 refine bK (aH _) λad H=> ?_
 delta l_;kernel_rfl
def o5(G:ay)(ag k:aa)(l a:aa)(H:ae):O:=j (aK P 45 a 0) λq=>j (an P H 3 q) λs=>j (aq P .neq 3 X s (I J 4)) λc=>aQ c X H (bA (aK P 45 a 0)) λu h=>aQ c X h (qr (an P h 3 u)) λv m=>aQ c X m (bA (aq P .neq 3 X v (I J 5))) λw n=>j (cB c (D w) (D (C U))) λd=>aQ d X n (bA (aK P 45 a 0)) λx i=>aQ d X i (qr (an P i 3 x)) λy o=>aQ d X o (bA (aq P .neq 3 X y (I J 6))) λz e=>j (cB d (D z) (D (C U))) λA=>aW (D A) (aI e (G 24 [ag,I J 2] e) λB p=>l_ G ag k l a p) (l_ G ag k l a e)
def LU(G:ay)(N:Nat):∀ad H,bo P G N (ak (ak (ak (bs Tryd.f89)))) (bh Tryd.f89) [] (bh Tryd.f89) ad H=o5 G (ad 0) (ad 3) (ad 4) (ad 5) H:=by
 refine bK ((aP ah (LV G N) (aH _))) λad H=> ?_
 delta o5;generalize l_ G=a;revert a;refine id ?_;intro a;kernel_rfl
def ma(G:ay)(ag h d:aa)(H:ae):O:=aI H (G 27 [ag,Y [59]] H) λi a=>j (an P a 112 h) λe=>a7 a (aV P a 112 d e) λc=>j (an P c 112 d) λr=>D (r,c)
def LW(G:ay)(N:Nat):∀ad H,bo P G N (ak (ak (ak (a6 (ak (a6 (ak (ak (bs Tryd.f89))))))))) (λad H=>o5 G (ad 0) (ad 3) (ad 4) (ad 5) H) [] (bh Tryd.f89) ad H=ma G (ad 0) (ad 3) (ad 4) H:=by
 refine bK (aH _) λad H=> ?_
 delta ma;kernel_rfl
def jf(G:ay)(ag av:aa)(H:ae):O:=bS H (dS (H).next av) λa s=>cg s [I J 0,Y [],Y [],I J 0,aa.ar,aa.ar,aa.ar,I J 0,I J 0] λk m=>aI m (G 40 [ag,I J 0] m) λQ x=>cg x [I J 0,I J 0,Y [],Y [],I J 0,aa.ar,I J 0,I J 0,I J 0,I J 0,I J 0] λd n=>a7 n (aV P n 45 d Q) λo=>aI o (G 23 [ag,Y [61]] o) λy h=>j (e2 .not y) λz=>aW (D z) (j (aK P 112 a 0) λA=>a7 h (aV P h 3 A (I J 9)) λi=>j (an P i 45 d) λB=>bS i (bV P (i).next 41 1 [(0,B)]) λE p=>j (aK P 112 a 3) λF=>a7 p (aV P p 41 F E) λq=>aI q (G 23 [ag,Y [59]] q) λc u=>aQ c X u (bA (aK P 45 d 0)) λK l=>aQ c X l (qr (an P l 3 K)) λL v=>aQ c X v (bA (aq P .neq 3 X L (I J 7))) λM e=>j (cB c (D M) (D (C U))) λN=>aW (D N) (aI e (G 24 [ag,I J 2] e) λR w=>ma G ag a k w) (ma G ag a k e)) (o5 G ag a k d h)
def Kd(N:Nat){ag av:aa}{H:ae}{r:aa×ae}(h:jf (aC P az) ag av H=D r):aC P az 89 [ag,av] H=D r:=cO N (S:=λG=>jf G ag av H) Tryd.func89 (λG=>dN ((aP ah ((aP ah ((aP ah (LU G N) ((aP ah ((dt ah ((aP ah ((aP ah ((aP ah (LW G N) (aH _))) (aH _))) (aH _))) (aH _))) (aH _))))) (aH _))) (aH _))) (by delta jf;generalize o5 G=a;generalize ma G=c;revert a c;refine id ?_;intro a c;kernel_rfl)) h
end
end
def oI{H:ae}{r:Nat}{T:List Tok}{ao:aa}{s:aw}(aE:T.length<=20000000)(c:bI H r T ao s):W (aC P az 40 [.ptr r 0 0,I J 0] H) (dB H r T ao (bB T s).1 (bB T s).2):=by
 obtain⟨p,q,-,a,-,-⟩:=CZ (T:=T) af T.length s (A2 _ _) 0 800000000 800000000 af af af;have:bB T s=q:=by simp only[bB,a]
 rw[this];exact(tz 800000000 af 800000000 (bk _)).expr c 0 af q.1 q.2 a
def Jl{H0 H:ae}{r:Nat}{T:List Tok}{ao:aa}{s0 s:aw}(c:bI H0 r T ao s0)(j:b5 r H0 H)(l:bw H r ao s){a:b1}{es:List aL}{b6:aa}(i:b8 H (bg (H0.next+2)) es b6)(g3:H.get H0.next=D (.row U 9 [a.cells b6 .ar .ar]))(g4:H.get (H0.next+1)=D (.row U 9 [[I J 0,Y [],Y [],I J 0,.ar,.ar,.ar,I J 0,I J 0]])):
  W (ma (aC P az) (.ptr r 0 0) (.ptr H0.next 0 0) (.ptr (H0.next+1) 0 0) H) (fb H0 r T ao (.mk a es [] []) (bl T [59] s)):=by
 have n:=c.rd.lt;have mJ:=ae.aS g4;have k:=i.eb;rw[ma];refine aN (gf (c.mut j l) [59] (by simp)) ?_;rintro _ H1 ⟨rfl,m1,m⟩;refine⟨m1.1,?_⟩;have d:=m1.get g3 af;have e:=m1.get g4 af;have eZ:=ae.aS e;simp only[b1.cells]at d;simp-implicitDefEqProofs(disch:=try exact al)only[jf,reduceAdd,reduceLeDiff,reduceIte,ax,eW,d,e,k];exact bb.2 (fb.fin (a:=a) c (j.trans m1) m.rd (i.aX (c9.mut m1 (by unfold bg;omega) λ_ h=>h)) (c1.nil _ _) (c1.nil _ _) af (lo:=H0.next+2) af _)
def fb.two{H c bJ:ae}{r:Nat}{T:List Tok}{ao:aa}{s s':aw}{a:b1}{es:List aL}{b6:aa}(i:bI H r T ao s)(j:b5 r H c)(d:bw c r ao s')(u:c.next<=bJ.next)(e:∀l,l<c.next->l≠H.next->l≠H.next+1->bJ.get l=c.get l)
  (o:c9 c (bg (H.next+2)) bJ (bg H.next)->b8 bJ (bg H.next) es b6):fb H r T ao (.mk a es [] []) s' (.agg (a.cells b6 .ar .ar)) bJ:=by
 have q:=i.rd.lt;have p:=j.1;have m:b5 r H bJ:=⟨af,λl k n=>by rw[e l af af af];exact j.2 l k n⟩;refine⟨m,i.mut m ?_,ln.2 ⟨b6,.ar,.ar,rfl,o λl ro els h g=>⟨by unfold bg at*;omega,?_⟩,c1.nil _ _,c1.nil _ _⟩⟩
 ·have:=d.lt;unfold bw at d ⊢;rw[e r af af af];exact d
 ·have:=ae.aS g;unfold bg at h;rw[e l af af af];exact g
def Jo{H0 H:ae}{r:Nat}{T:List Tok}{ao:aa}{s0 s:aw}(aE:T.length<=20000000)(d:bI H0 r T ao s0)(B:b5 r H0 H)(N:bw H r ao s){pos:Int}{a:bM}{ks:List aL}{kv:aa}{b:Nat}(he:cu H (λl=>H0.next+2<=l/\l<b) (.mk a ks) (.agg (a.cells kv)))(ad:H0.next+2<=b)
  (g3:H.get H0.next=D (.row U 9 [b1.cells {kind:=0,pos:=pos} .ar .ar .ar])) (g4:H.get (H0.next+1)=D (.row U 9 [[I J 0,Y [],Y [],I J 0,.ar,.ar,.ar,I J 0,I J 0]])) (g5:H.get b=D (.row U 11 [a.cells kv])):
  W (l_ (aC P az) (.ptr r 0 0) (.ptr H0.next 0 0) (.ptr (H0.next+1) 0 0) (.ptr b 0 0) H) (fb H0 r T ao (bE.at pos (bif a.kind==4 then .mk {kind:=3,name:=a.name} [(bB T (bl T [61] s)).1] [] []else .mk {kind:=4} [.mk a ks,(bB T (bl T [61] s)).1] [] [])) (bl T [59] (bB T (bl T [61] s)).2)):=by
 have ag:=d.rd.lt;have ah:=ae.aS g5;rw[l_];refine aN (gf (d.mut B N) [61] (by simp)) ?_;rintro _ H1 ⟨rfl,m1,m⟩;refine⟨m1.1,?_⟩;have ak:=m1.1;generalize bl T [61] s=s1 at m ⊢;simp-implicitDefEqProofs(disch:=try exact al)only[jf,reduceAdd,reduceLeDiff,reduceIte,ax,eW];refine aN (oI aE m) ?_;rintro v q ⟨m2,n,j⟩;refine⟨m2.1,?_⟩;have n2:=m2.1;obtain⟨cs,rfl,i,bH⟩:=j.cells;generalize bB T s1=ab at n j ⊢;simp-implicitDefEqProofs(disch:=try exact al)only[jf,reduceAdd,reduceLeDiff,reduceIte,ax,eW,i,bH,List.append_nil];have c:=aO.push q (.row U 11 [cs]);refine aN (gf (n.aM c) [59] (by simp)) ?_;rintro _ F ⟨rfl,m4,y⟩
 refine⟨m4.1,?_⟩;have Q:=m4.1;simp only[ae.bT]at Q;have gl:=n.rd.lt;have e:=m4.get (c.get (m2.get (m1.get g3 af) af)) af;have o:=m4.get (c.get (m2.get (m1.get g4 af) af)) af;have p:=m4.get (c.get (m2.get (m1.get g5 af) af)) af;have z:=m4.get (ae.bC q (.row U 11 [cs])) af;have ai:=ae.aS e;have aj:=ae.aS o;have m24:=(c.mut (· =r)).trans m4;have E:=(((B.trans m1).trans m2).trans m24);have t1:List.take 11 cs=cs:=List.take_of_length_le af;have x:=j.mut (ok':=bg (H0.next+2)) m24 (by unfold bg;have:=m.rd.lt;omega) λl h=>by unfold bg at*;omega
 have G:cu F (bg (H0.next+2)) (.mk a ks) (.agg (a.cells kv)):=he.mut ((m1.trans m2).trans m24) af λl h=>by unfold bg;omega
 obtain⟨O,M,L⟩:=gO.1 he;have w:=L.eb;have K:O=kv:=by
  have:=congrArg (λv=>match v with|aa.agg cs=>cs[5]? |_=>Z) M;simpa [bM.cells]using this.symm
 rw[K]at w;have R:(a.cells kv).all aa.one=true:=by simp only[bM.cells,List.all_cons,List.all_nil,gH,hq,w,Bool.and_self]
 simp only[b1.cells]at e;cases u:a.kind==4 with
 |true=>
  have aB:∀l,bV P l 41 1 [(0,.agg cs)]=D (.aA l 0 1 11 (D 1),.row U 11 [cs]):=λl=>jh l cs i bH
  simp only[bM.cells]at p;simp-implicitDefEqProofs(disch:=try exact al)only[jf,reduceAdd,reduceLeDiff,reduceIte,ax,eW,e,o,p,z,u,t1,aB,ae.hr];refine bb.2 (fb.two (a:={kind:=3,name:=a.name,pos:=pos}) d E y.rd ?_ ?_ λk=>b8.mO (ro:=false) ?_ (by unfold bg;omega) (cu.aX k _ _ x))
  ·simp only[ae.bT,ae.dj];omega
  ·intro l aZ S V;simp-implicitDefEqProofs(disch:=try exact al)only[dq]
  ·simp-implicitDefEqProofs(disch:=try exact al)only[dq]
 |false=>
  have aB:∀l,bV P l 41 2 [(0,.agg (a.cells kv)),(1,.agg cs)]=D (.aA l 0 2 11 (D 2),.row U 11 [a.cells kv,cs]):=λl=>vT l (a.cells kv) cs rfl R i bH
  have A:=p;simp only[bM.cells]at A aB;simp-implicitDefEqProofs(disch:=try exact al)only[jf,reduceAdd,reduceLeDiff,reduceIte,ax,eW,e,o,A,z,u,t1,aB,ae.hr];refine bb.2 (fb.two (a:={kind:=4,pos:=pos}) d E y.rd ?_ ?_ λk=>b8.wo (ro:=false) ?_ (by unfold bg;omega) (cu.aX k _ _ G) (cu.aX k _ _ x))
  ·simp only[ae.bT,ae.dj];omega
  ·intro l aZ S V;simp-implicitDefEqProofs(disch:=try exact al)only[dq]
  ·simp-implicitDefEqProofs(disch:=try exact al)only[dq,bM.cells]
def Jm{H:ae}{r:Nat}{T:List Tok}{ao:aa}{s:aw}(aE:T.length<=20000000)(x:bI H r T ao s)(pos:Int):W (aC P az 89 [.ptr r 0 0,.agg (b1.cells {kind:=0,pos:=pos} .ar .ar .ar)] H) (fb H r T ao ((kb T s).1.at pos) (kb T s).2):=by
 refine cz (λ_=>Kd 0) ?_;have au:=x.rd.lt;have ai:∀l,dS l (.agg (b1.cells {kind:=0,pos:=pos} .ar .ar .ar))=D (.ptr l 0 0,.row U 9 [b1.cells {kind:=0,pos:=pos} .ar .ar .ar]):=λl=>hh l _ rfl
 have ah:=(aO.push H (.row U 9 [b1.cells {kind:=0,pos:=pos} .ar .ar .ar])).bt (.row U 9 [[I J 0,Y [],Y [],I J 0,.ar,.ar,.ar,I J 0,I J 0]]);simp-implicitDefEqProofs(disch:=try exact al)only[jf,reduceAdd,reduceLeDiff,reduceIte,ax,eW,ai];refine aN (oI aE (x.aM ah)) ?_;rintro v k ⟨m2,E,he⟩;refine⟨m2.1,?_⟩;have n2:=m2.1;simp only[ae.bT]at n2;unfold kb;obtain⟨cs,rfl,ad,bH⟩:=he.cells;have t1:List.take 11 cs=cs:=List.take_of_length_le af;have g3:k.get H.next=D (.row U 9 [b1.cells {kind:=0,pos:=pos} .ar .ar .ar]):=m2.get (by simp-implicitDefEqProofs(disch:=try exact al)only[dq]) af
 have g4:=m2.get (ae.bC (H.push (.row U 9 [b1.cells {kind:=0,pos:=pos} .ar .ar .ar])) (.row U 9 [[I J 0,Y [],Y [],I J 0,.ar,.ar,.ar,I J 0,I J 0]])) (by simp only[ae.bT];omega);simp only[ae.bT]at g4;generalize bB T s=d at E he ⊢;simp-implicitDefEqProofs(disch:=try exact al)only[jf,reduceAdd,reduceLeDiff,reduceIte,ax,eW,ad,bH,List.append_nil];have ab:=aO.push k (.row U 11 [cs]);refine aN (dk (E.rd.aM ab) (E.bx.aM ab) [61] (by simp)) ?_;rintro _ c ⟨rfl,L⟩;refine⟨L.1,?_⟩;have ak:=L.1;simp only[ae.bT]at ak;have y:=ab.trans L;have G:=y.get g3;have K:=y.get g4
 have q:=L.get (ae.bC k (.row U 11 [cs]));have av:=ae.aS G;have ay:=ae.aS q;have n:cu c (λl=>H.next+2<=l/\l<k.next) d.1 (.agg cs):=cu.aX (c9.aM y λl h=>by simpa only[bg,ae.bT]using h) _ _ he.below;have V:=((ah.mut (· =r)).trans m2).trans (y.mut _);have Q:=E.aM y;cases aq:a1 T d.2 [61]with
 |true=>
  simp-implicitDefEqProofs(disch:=try exact al)only[jf,reduceAdd,reduceLeDiff,reduceIte,ax,eW,Bool.not_true];unfold vR;have fin:∀(i:ae) (a:bM) (ks:List aL) (kv:aa),cu i (λl=>H.next+2<=l/\l<k.next) (.mk a ks) (.agg (a.cells kv))->b5 r H i->bw i r ao (bif h4 (.mk a ks)then cL T 2 d.2 else d.2)->i.get H.next=D (.row U 9 [b1.cells {kind:=0,pos:=pos} .ar .ar .ar])->i.get (H.next+1)=D (.row U 9 [[I J 0,Y [],Y [],I J 0,.ar,.ar,.ar,I J 0,I J 0]])->i.get k.next=D (.row U 11 [a.cells kv])->
    W (l_ (aC P az) (.ptr r 0 0) (.ptr H.next 0 0) (.ptr (H.next+1) 0 0) (.ptr k.next 0 0) i) (fb H r T ao (bE.at pos (bif (aL.mk a ks).kind==4 then .mk {kind:=3,name:=(aL.mk a ks).name} [(bB T (hH T (.mk a ks) d.2)).1] [] []else .mk {kind:=4} [.mk a ks,(bB T (hH T (.mk a ks) d.2)).1] [] [])) (bl T [59] (bB T (hH T (.mk a ks) d.2)).2)):=
   λi a ks kv h m5 d5 z j e=>Jo aE x m5 d5 h af z j e
  rcases O:d.1 with⟨a,ks⟩;rw[O]at n;obtain⟨kv,w,-⟩:=gO.1 n;simp only[aa.agg.injEq]at w;subst w;have u:=q;simp only[bM.cells]at u;simp-implicitDefEqProofs(disch:=try exact al)only[o5,reduceAdd,reduceLeDiff,reduceIte,ax,u];have N:=λ(h:h4 (.mk a ks)=U)=>fin c a ks kv n V (by rw[h];exact Q.rd) G K q
  cases j:(a.kind != 4)with
  |false=>
   simp-implicitDefEqProofs(disch:=try exact al)only[reduceAdd,reduceLeDiff,reduceIte,ax,u];exact N (by simp only[h4,aL.kind,j,Bool.false_and])
  |true=>
   cases e:(a.kind != 5)with
   |false=>
    simp-implicitDefEqProofs(disch:=try exact al)only[reduceAdd,reduceLeDiff,reduceIte,ax,u,e];exact N (by simp only[h4,aL.kind,j,e,Bool.false_and,Bool.and_false])
   |true=>
    cases m:(a.kind != 6)with
    |false=>
     simp-implicitDefEqProofs(disch:=try exact al)only[reduceAdd,reduceLeDiff,reduceIte,ax,u,e,m];exact N (by simp only[h4,aL.kind,j,e,m,Bool.and_false])
    |true=>
     simp-implicitDefEqProofs(disch:=try exact al)only[reduceAdd,reduceLeDiff,reduceIte,ax,u,e,m];refine aN (jI Q 2) ?_;rintro _ i ⟨rfl,m5,F⟩;refine⟨m5.1,?_⟩;exact fin i a ks kv (n.mut m5 af λ_ h=>h) (V.trans m5) (by rw[show h4 (.mk a ks)=X by simp only[h4,aL.kind,j,e,m,Bool.and_self]];exact F.rd) (m5.get G af) (m5.get K af) (m5.get q af)
 |false=>
  have aB:∀l,bV P l 41 1 [(0,.agg cs)]=D (.aA l 0 1 11 (D 1),.row U 11 [cs]):=λl=>jh l cs ad bH
  have ag:=G;simp only[b1.cells]at ag;simp-implicitDefEqProofs(disch:=try exact al)only[jf,reduceAdd,reduceLeDiff,reduceIte,ax,eW,Bool.not_false,ag,K,q,t1,aB,ae.hr];have A:∀l,l<c.next->l≠H.next->((c.set H.next (.row U 9 [b1.cells {kind:=9,pos:=pos} (.aA c.next 0 1 11 (D 1)) .ar .ar])).push (.row U 11 [cs])).get l=c.get l:=λl am an=>by simp-implicitDefEqProofs(disch:=try exact al)only[dq]
  have m5:b5 r H ((c.set H.next (.row U 9 [b1.cells {kind:=9,pos:=pos} (.aA c.next 0 1 11 (D 1)) .ar .ar])).push (.row U 11 [cs])):=(V.cw (.inr (bk _)) _).bt _;have d5:bw ((c.set H.next (.row U 9 [b1.cells {kind:=9,pos:=pos} (.aA c.next 0 1 11 (D 1)) .ar .ar])).push (.row U 11 [cs])) r ao d.2:=by
   have h:=Q.rd;have:=h.lt;unfold bw at h ⊢;rw[A r af af];exact h
  have S:b8 ((c.set H.next (.row U 9 [b1.cells {kind:=9,pos:=pos} (.aA c.next 0 1 11 (D 1)) .ar .ar])).push (.row U 11 [cs])) (bg (H.next+2)) [d.1] (.aA c.next 0 1 11 (D 1)):=
   b8.mO (ro:=false) (by simp-implicitDefEqProofs(disch:=try exact al)only[dq]) (by unfold bg;omega) (cu.aX (λl ro els h g=>⟨by unfold bg;omega,by rw[A l af af];exact g⟩) _ _ n)
  have z:((c.set H.next (.row U 9 [b1.cells {kind:=9,pos:=pos} (.aA c.next 0 1 11 (D 1)) .ar .ar])).push (.row U 11 [cs])).get H.next=D (.row U 9 [b1.cells {kind:=9,pos:=pos} (.aA c.next 0 1 11 (D 1)) .ar .ar]):=by simp-implicitDefEqProofs(disch:=try exact al)only[dq]
  have j:=(A (H.next+1) af af).trans K;have e:=(A k.next af af).trans q;simp only[b1.cells]at m5 d5 S z j e;generalize (c.set H.next (.row U 9 [[aa.int J 9,Y [],Y [],I J 0,.aA c.next 0 1 11 (D 1),.ar,.ar,I J pos,I J 0]])).push (.row U 11 [cs])=i at m5 d5 S z j e ⊢;have F:=x.mut m5 d5;refine aN (dk d5 F.bx [59] (by simp)) ?_;rintro _ M ⟨rfl,o⟩;refine⟨o.1,?_⟩;have fin:∀(p:ae) (sL:aw),b5 r M p->bw p r ao sL->W (ma (aC P az) (.ptr r 0 0) (.ptr H.next 0 0) (.ptr (H.next+1) 0 0) p) (fb H r T ao (.mk {kind:=9,pos:=pos} [d.1] [] []) (bl T [59] sL)):=λp sL m7 d7=>
   Jl x ((m5.trans (o.mut _)).trans m7) d7 (S.aX (c9.mut ((o.mut _).trans m7) (by unfold bg;omega) λ_ h=>h)) (m7.get (o.get z) af) (m7.get (o.get j) af)
  have R:=F.aM o;cases ap:a1 T d.2 [59]with
  |false=>
   simp-implicitDefEqProofs(disch:=try exact al)only[reduceAdd,reduceLeDiff,reduceIte,ax];simp only[Bool.false_and,aT];exact fin M _ (cP.refl _ _) R.rd
  |true=>
   have m:=o.get e;rcases O:d.1 with⟨a,ks⟩;rw[O]at n fin;obtain⟨kv,w,-⟩:=gO.1 n;simp only[aa.agg.injEq]at w;subst w;simp only[bM.cells]at m;cases B:(a.kind != 7)with
   |false=>
    simp-implicitDefEqProofs(disch:=try exact al)only[reduceAdd,reduceLeDiff,reduceIte,ax,m,B];simp only[aL.kind,B,Bool.and_false,aT];exact fin M _ (cP.refl _ _) R.rd
   |true=>
    simp-implicitDefEqProofs(disch:=try exact al)only[reduceAdd,reduceLeDiff,reduceIte,ax,m,B];simp only[aL.kind,B,Bool.and_self,aY];refine aN (jI R 2) ?_;rintro _ p ⟨rfl,m7,aj⟩;refine⟨m7.1,?_⟩;exact fin p _ m7 aj.rd
def rb(n:Nat):Prop:=∀{H:ae} {r:Nat} {T:List Tok} {ao:aa} {s:aw},T.length<=20000000->bI H r T ao s->∀(e:bE) (s':aw),o9 T n s=D (e,s')->W (aC P az 78 [.ptr r 0 0] H) (fb H r T ao e s')
def q6(n:Nat):Prop:=∀{H:ae} {r:Nat} {T:List Tok} {ao:aa} {s:aw},T.length<=20000000->bI H r T ao s->∀(l:List bE) (s':aw),iU T n s=D (l,s')->W (aC P az 56 [.ptr r 0 0] H) λv H'=>b5 r H H'/\bI H' r T ao s'/\c1 H' (bg H.next) l v
def Cx{M:Nat}{H0 H:ae}{r:Nat}{T:List Tok}{ao:aa}{s0 s:aw}(a:bI H0 r T ao s0)(c:b5 r H0 H)(d:bw H r ao s){l:List bE}{v:aa}(e:c1 H (bg H0.next) l v):
  W (ns (aC P az) M (.ptr r 0 0) v H) λj H'=>b5 r H0 H'/\bI H' r T ao (dn T [125] s)/\c1 H' (bg H0.next) l j:=by
 have k:=a.rd.lt;rw[ns];refine aN (oG (a.mut c d) [125] (by simp)) ?_;rintro _ H1 ⟨rfl,m1,i⟩;refine⟨m1.1,?_⟩;exact bb.2 ⟨c.trans m1,i,e.aX (dU.mut m1 (by unfold bg;omega) λ_ h=>h)⟩
def CQ{N M:Nat}(F:∀k,k<N->rb k){H0:ae}{r:Nat}{T:List Tok}{ao:aa}{s0:aw}(aE:T.length<=20000000)(j:bI H0 r T ao s0):
  ∀(n m:Nat),n<=N->n<m->∀(H:ae) (s:aw) (l:List bE) (v:aa),b5 r H0 H->bw H r ao s->l.length+n<=1000000000->kE H0.next H l v->∀(l':List bE) (s':aw),mK T n l s=D (l',s')->
   W (nt (aC P az) M m (.ptr r 0 0) v H) λx H'=>b5 r H0 H'/\bI H' r T ao (dn T [125] s')/\c1 H' (bg H0.next) l' x
 |0,m,z,hm,H,s,l,v,d,i,hlen,o,l',s',h=>by simp[mK]at h
 |n+1,0,z,hm,H,s,l,v,d,i,hlen,o,l',s',h=>af
 |n+1,m+1,z,hm,H,s,l,v,d,i,hlen,o,l',s',h=>by
  have E:=j.rd.lt;have hle:=d.1;have u:=j.mut d i;simp only[mK]at h;simp only[nt];rw[sF];refine aN (jJ i) ?_;rintro _ H1 ⟨rfl,rfl⟩;refine⟨bk _,?_⟩;by_cases A:s.aF=0
  ·have a:(s.aF==0)=true:=by simp[A]
   simp-implicitDefEqProofs(disch:=try exact al)only[reduceAdd,reduceLeDiff,reduceIte,ax,a];refine iR (dk i u.bx [125] (by simp)) ?_;rintro _ ak ⟨rfl,e⟩;refine⟨e.1,?_⟩;have q:=o.mut (e.mut (· =r)) E;cases B:a1 T s [125]with
   |true=>
    simp only[a,B,Bool.not_true,Bool.and_false,aT,aU,bY]at h;obtain⟨rfl,rfl⟩:=h;simp-implicitDefEqProofs(disch:=try exact al)only[reduceAdd,reduceLeDiff,reduceIte,ax,a,Bool.not_true,Bool.not_false];exact Cx j (d.trans (e.mut _)) (u.aM e).rd q.Dw
   |false=>
    simp only[a,B,Bool.not_false,Bool.and_self,aY,cR]at h;obtain⟨⟨y,s1⟩,O,Q⟩:=h;simp-implicitDefEqProofs(disch:=try exact al)only[reduceAdd,reduceLeDiff,reduceIte,ax,a,Bool.not_true,Bool.not_false];refine aN (F n af aE (u.aM e) y s1 O) ?_;rintro w am ⟨m3,ah,he⟩;refine⟨m3.1,?_⟩;obtain⟨cs,rfl,K,bH⟩:=he.cells;have V:=q.mut m3 E;have ap:=m3.1;have n2:=e.1;obtain⟨x,H',R,S,G,an⟩:=V.app he af (λL k c p=>by
     rcases q with⟨aZ,_⟩|⟨L',els,aZ,aj,_⟩
     ·rw[aZ]at p;cases p
     ·rw[aZ]at p;cases p;exact ae.aS aj) af af
    have aB:=λl=>Md l cs K bH
    simp-implicitDefEqProofs(disch:=try exact al)only[reduceAdd,reduceLeDiff,reduceIte,ax,aB,R,eI];have ai:b5 r H0 H':=⟨by have:=d.1;omega,λk ab ad=>by
     rw[G.2 k af af];exact((d.trans (e.mut _)).trans m3).2 k ab ad⟩
    have ag:bw H' r ao s1:=G.get ah.rd af;exact CQ F aE j n m af af H' s1 (l++[y]) x ai ag (by simp only[List.length_append,List.length_cons,List.length_nil];omega) S l' s' Q
  ·have a:(s.aF==0)=false:=by simpa using A
   simp only[a,Bool.false_and,aT,aU,bY]at h;obtain⟨rfl,rfl⟩:=h;simp-implicitDefEqProofs(disch:=try exact al)only[reduceAdd,reduceLeDiff,reduceIte,ax,a,Bool.not_true];exact Cx j d i o.Dw
def I3{n:Nat}(e:n<=1000000000)(j:∀k,k<n->rb k):q6 (n+1):=by
 intro H r T ao s aE c l s' h;refine cz (λ_=>JV (n+1)) ?_;simp only[iU,cR]at h;obtain⟨⟨m,s1⟩,d,a⟩:=h;simp only[aU,bY]at a;obtain⟨rfl,rfl⟩:=a;rw[sE];refine aN (oJ c [123] (by simp)) ?_;rintro _ H1 ⟨rfl,m1,i⟩;refine⟨m1.1,?_⟩;exact CQ j aE c n (n+1) (bk _) af H1 _ [] .ar m1 i.rd (by simpa using e) (.inl ⟨rfl,rfl⟩) m s1 d
structure eX(H0 H:ae)(r b3 cK:Nat)(ao:aa)(t:Tok)(s:aw)(c:List aa):Prop where
 m:b5 r H0 H
 rd:bw H r ao s
 g2:H.get H0.next=some (.row false 9 [[.int .i64 0,.str [],.str [],.int .i64 0,.ar,.ar,.ar,.int .i64 0,.int .i64 0]])
 g3:H.get b3=some (.row false 4 [[.int .i64 t.kind,.str t.text,.int .i64 t.n,.int .i64 t.pos]])
 g4:H.get cK=some (.row false 9 [c])
 dI:H0.next<b3
 eZ:b3<cK
def eX.mut{H0 H H':ae}{r b3 cK:Nat}{ao:aa}{t:Tok}{s s':aw}{c:List aa}(h:eX H0 H r b3 cK ao t s c)(d:r<H0.next)(m:b5 r H H')(a:bw H' r ao s'):eX H0 H' r b3 cK ao t s' c:=
 ⟨h.m.trans m,a,m.get h.g2 af,m.get h.g3 (by have:=h.dI;omega),m.get h.g4 (by have:=h.dI;have:=h.eZ;omega),h.dI,h.eZ⟩
def eX.set{H0 H:ae}{r b3 cK:Nat}{ao:aa}{t:Tok}{s:aw}{c:List aa}(h:eX H0 H r b3 cK ao t s c)(e:r<H0.next)(c':List aa):eX H0 (H.set cK (.row U 9 [c'])) r b3 cK ao t s c':=by
 have a:=h.dI;have d:=h.eZ;refine⟨h.m.cw (.inr af) _,?_,?_,?_,ae.get_set_same (ae.aS h.g4),a,d⟩
 ·have:=h.rd;unfold bw at this ⊢;rw[ae.get_set_other af];exact this
 ·rw[ae.get_set_other af];exact h.g2
 ·rw[ae.get_set_other af];exact h.g3
def eX.push{H0 H:ae}{r b3 cK:Nat}{ao:aa}{t:Tok}{s:aw}{c:List aa}(h:eX H0 H r b3 cK ao t s c)(d:r<H0.next)(a:bO):eX H0 (H.push a) r b3 cK ao t s c:=
 h.mut d ((aO.push H a).mut _) (h.rd.aM (aO.push H a))
section
variable {H0 H:ae}{r b3 cK:Nat}{T:List Tok}{ao:aa}{s0 s:aw}{t:Tok}
def oK(k:bI H0 r T ao s0){a:b1}{es:List aL}{c d:List bE}{b6 bv e:aa}(b:eX H0 H r b3 cK ao t s (a.cells b6 bv e))(h:b8 H (bg (cK+1)) es b6)(i:c1 H (bg (cK+1)) c bv)(j:c1 H (bg (cK+1)) d e):
  W (gd (aC P az) (.ptr H0.next 0 0) (.ptr cK 0 0) H) (fb H0 r T ao (.mk a es c d) s):=by
 have bH:=h.eb;have bX:=i.eb;have ck:=j.eb;have g2:=b.g2;have g3:=b.g4;have l:=ae.aS g2;have n:=b.dI;have o:=b.eZ;simp only[b1.cells]at g3;simp-implicitDefEqProofs(disch:=try exact al)only[gd,reduceAdd,reduceLeDiff,reduceIte,ax,eW,g2,g3,bH,bX,ck];exact bb.2 (fb.fin (a:=a) k b.m b.rd h i j (bk _) af _)
def eX.expr(a:r<H0.next){e:aL}{cs c c':List aa}{L:Nat}(b:eX H0 H r b3 cK ao t s c)(he:cu H (bg (cK+1)) e (.agg cs))(d:L=H.next):eX H0 ((H.set cK (.row U 9 [c'])).push (.row U 11 [cs])) r b3 cK ao t s c'/\b8 ((H.set cK (.row U 9 [c'])).push (.row U 11 [cs])) (bg (cK+1)) [e] (.aA L 0 1 11 (D 1)):=by
 subst d;have i:=ae.aS b.g4;refine⟨(b.set a c').push a _,b8.mO (ro:=false) ?_ (by unfold bg;omega) (cu.aX ?_ e _ he)⟩
 ·exact ae.bC (H.set cK (.row U 9 [c'])) _
 ·intro l ro els h g;refine⟨h,?_⟩;unfold bg at h;exact(aO.push _ _).get (by rw[ae.get_set_other af];exact g)
def CE(c:bI H0 r T ao s0){a:b1}{es:List aL}{b6:aa}(b:eX H0 H r b3 cK ao t s (a.cells b6 .ar .ar))(d:b8 H (bg (cK+1)) es b6):
  W (nB (aC P az) (.ptr r 0 0) (.ptr H0.next 0 0) (.ptr cK 0 0) H) (fb H0 r T ao (.mk a es [] []) (bl T [59] s)):=by
 have e:=c.rd.lt;have j:=b.dI;have k:=b.eZ;rw[nB];refine aN (gf (c.mut b.m b.rd) [59] (by simp)) ?_;rintro _ H1 ⟨rfl,m1,i⟩;refine⟨m1.1,?_⟩;exact oK c (b.mut e m1 i.rd) (d.aX (c9.mut m1 (by unfold bg;omega) λ_ h=>h)) (c1.nil _ _) (c1.nil _ _)
def C1(c:bI H0 r T ao s0){a:b1}{es:List aL}{b6:aa}(b:eX H0 H r b3 cK ao t s (a.cells b6 .ar .ar))(d:b8 H (bg (cK+1)) es b6):
  W (nC (aC P az) (.ptr r 0 0) (.ptr H0.next 0 0) (.ptr cK 0 0) H) (fb H0 r T ao (.mk a es [] []) (bl T [59] s)):=by
 have e:=c.rd.lt;have j:=b.dI;have k:=b.eZ;rw[nC];refine aN (gf (c.mut b.m b.rd) [59] (by simp)) ?_;rintro _ H1 ⟨rfl,m1,i⟩;refine⟨m1.1,?_⟩;exact oK c (b.mut e m1 i.rd) (d.aX (c9.mut m1 (by unfold bg;omega) λ_ h=>h)) (c1.nil _ _) (c1.nil _ _)
