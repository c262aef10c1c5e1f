/-
  Texts of one proof, laid together: ShD ShE.
-/
import Derived.Test.YtolnciihfbifcaaGreatME
set_option linter.unusedVariables false
set_option linter.unusedSimpArgs false
set_option linter.defProp false
open Option renaming some→D,none→Y
open Bool renaming true→V,false→U
open Go.cV.aa renaming int→I,bool→Z
open Go.IntKind renaming i64→J
namespace Go.Proofs.YtolnciihfbifcaaGreat
open Go.cV
section
set_option maxRecDepth 100000
noncomputable section
def m6(G:ai)(N:Nat)(a:aa)(H:af):O:=ad (aL a) λb=>ad (ak P 298 b 5) λc=>ad (ah P H 178 c) λd=>D (d,H)
def ajx(G:ai)(N:Nat):∀C H,aD P G N (ae (ae (ae (ae (aG Tryz.f196))))) (ax Tryz.f196) [] (ax Tryz.f196) C H=m6 G N (C 3) H:=by
 refine aI (aj _) λC H=> ?_
 delta m6;kernel_rfl
def o8(G:ai)(N:Nat)(a:aa->aa->aa->aa->af->O)(e b:aa)(c d:aa)(H:af):O:=ad (al P .add 3 V d (I J 1)) λf=>a e b c f H
def ajy(G:ai)(N:Nat)(a:aa->aa->aa->aa->af->O):∀C H,aD P G N (ae (ae (ae (aq (aq (ae (aq (ae (ae (ae (aG Tryz.f196))))))))))) (λC H=>a (C 3) (C 20) (C 21) (C 22) H) [(0,(λC H=>m6 G N (C 3) H))] (ax Tryz.f196) C H=o8 G N a (C 3) (C 20) (C 21) (C 22) H:=by
 refine aI (aj _) λC H=> ?_
 delta o8;kernel_rfl
def Gq(G:ai)(N:Nat)(k:aa->aa->aa->aa->af->O)(l:aa->aa->aa->aa->aa->aa->aa->af->O)(b e:aa)(f g:aa)(h i c:aa)(H:af):O:=ad (al P .lss 3 U c i) λn=>ay (D n) (ad (aH P 44 h c) λo=>ad (ah P H 75 o) λp=>ba H [I J 0,I J 0,I J 0,I J 0,I J 0,aa.ao] λj d=>aF d (aC P d 75 j p) λa=>ad (ah P a 75 j) λq=>aw a (G 236 [b,q] a) λs m=>ad (al P .add 3 V c (I J 1)) λr=>l b e f g h i r m) (o8 G N k b e f g H)
def th(G:ai)(N:Nat)(a:aa->aa->aa->aa->af->O):Nat->aa->aa->aa->aa->aa->aa->aa->af->O
 |0,_,_,_,_,_,_,_,_=>Y
 |n+1,e,b,c,d,f,g,h,H=>Gq G N a (th G N a n) e b c d f g h H
def ajv(G:ai)(N:Nat)(a:aa->aa->aa->aa->af->O)(c:aa->aa->aa->aa->aa->aa->aa->af->O):∀C H,aD P G N (aq (aq (ae (ae (ae (aq (aq (ae (ae (aq (aq (ae (aq (ae (ae (ae (aG Tryz.f196))))))))))))))))) (λC H=>c (C 3) (C 20) (C 21) (C 22) (C 36) (C 37) (C 38) H) [(2,(λC H=>o8 G N a (C 3) (C 20) (C 21) (C 22) H)),(1,(λC H=>o8 G N a (C 3) (C 20) (C 21) (C 22) H)),(0,(λC H=>m6 G N (C 3) H))] (ax Tryz.f196) C H=Gq G N a c (C 3) (C 20) (C 21) (C 22) (C 36) (C 37) (C 38) H:=by
 refine aI (aj _) λC H=> ?_
 delta Gq;generalize o8 G N a=b;revert b;refine id ?_;intro b;kernel_rfl
def Gp(G:ai)(N:Nat)(l:aa->aa->aa->aa->af->O)(d i:aa)(j c:aa)(H:af):O:=ad (al P .lss 3 U c j) λm=>ay (D m) (ad (aH P 24 i c) λn=>ad (ah P H 46 n) λo=>ba H [I J 0,aa.ao,Z U,I J 0,I J 0,I J 0,aa.ao] λa h=>aF h (aC P h 46 a o) λe=>ad (aL d) λp=>ad (ak P 298 p 2) λq=>aF e (aC P e 3 q c) λb=>ad (ah P b 46 a) λg=>ad (aL d) λr=>ad (ak P 298 r 0) λs=>aF b (aC P b 46 s g) λf=>bif ((aJ (ah P e 46 a) g&&(aJ (ah P b 46 a) g&&V))&&V)then(ad (ak P 46 a 4) λt=>ad (ah P f 44 t) λk=>a1 P .len [44] [k] f λu=>th G N l N d i j c k u (I J 0) f)else Y) (m6 G N d H)
def tg(G:ai)(N:Nat):Nat->aa->aa->aa->aa->af->O
 |0,_,_,_,_,_=>Y
 |n+1,d,a,b,c,H=>Gp G N (tg G N n) d a b c H
def aju(G:ai)(N:Nat)(a:aa->aa->aa->aa->af->O):∀C H,aD P G N (aq (aq (ae (aq (ae (ae (ae (aG Tryz.f196)))))))) (λC H=>a (C 3) (C 20) (C 21) (C 22) H) [(0,(λC H=>m6 G N (C 3) H))] (ax Tryz.f196) C H=Gp G N a (C 3) (C 20) (C 21) (C 22) H:=by
 refine aI ((ar j ((ar j ((ar j (ajy G N a) ((aX j ((ar j ((ar j ((ar j ((aX j ((a_ (k:=λm C H=>th G N a m (C 3) (C 20) (C 21) (C 22) (C 36) (C 37) (C 38) H) j (λC H=>j) (λm=>ajv G N a (th G N a m)))))) (aj _))) (aj _))) (aj _))))))) (aj _))) (aj _))) λC H=> ?_
 delta Gp;generalize m6 G N=b;generalize th G N a N=c;revert b c;refine id ?_;intro b c;kernel_rfl
def AG(G:ai)(N:Nat)(k:aa)(H:af):O:=aK H (bl (H).next k) λa g=>ad (ah P g 27 a) λt=>aw g (G 75 [t] g) λu b=>ad (bu .not u) λl=>ay (D l) (D (aa.ao,b)) (ad (ah P b 27 a) λm=>aw b (G 234 [m] b) λn c=>ad (ah P c 27 a) λi=>aw c (G 235 [i] c) λo d=>ad (ak P 27 a 2) λe=>ad (ah P d 24 e) λf=>ad (bo P 298 [(1,n),(3,o),(4,f)]) λp=>aK d (bl (d).next p) λq h=>bif ((aJ (ah P b 27 a) i&&(aJ (ah P c 27 a) i&&V))&&((aJ (ah P b 24 e) f&&(aJ (ah P c 24 e) f&&(aJ (ah P d 24 e) f&&V)))&&V))then(ad (ak P 27 a 2) λr=>ad (ah P h 24 r) λj=>a1 P .len [24] [j] h λs=>tg G N N q j s (I J 0) h)else Y)
def ajw(G:ai)(N:Nat)(b:aa)(H:af):aB Tryz.f196 G N (aO [b]) H=AG G N b H:=by
 refine aT (A:=aB Tryz.f196 G N) ((ar j ((ar j ((ar j ((ar j (ajx G N) ((ar j ((aX j ((a_ (k:=λm C H=>tg G N m (C 3) (C 20) (C 21) (C 22) H) j (λC H=>j) (λm=>aju G N (tg G N m)))))) (aj _))))) (aj _))) (aj _))) (aj _))) ?_;delta AG;generalize tg G N N=a;revert a;refine id ?_;intro a;kernel_rfl
def AL(G:ai)(x e:aa)(H:af):O:=aK H (bl (H).next x) λc g=>ad (ah P g 27 c) λF=>aw g (G 75 [F] g) λK s=>ad (bu .not K) λk=>au k U s (aV e) λL t=>au k U t (aE (al P .lss 3 V L (I J 0))) λy u=>ad (aU k (D (Z V)) (D y)) λa=>au a U u (aV e) λz v=>au a U v (aE (ak P 27 c 1)) λA l=>au a U l (qr (ah P l 23 A)) λn m=>au a U m (λq=>bE (a6 P .empty .len [23] [n]) (a6 P m .len [23] [n]) q) λB w=>au a U w (aE (al P .geq 3 U z B)) λC b=>ad (aU a (D (Z V)) (D C)) λE=>ay (D E) (D ((I J (-1)),b)) (ad (ah P b 27 c) λo=>aw b (G 235 [o] b) λp d=>ad (ak P 27 c 2) λi=>ad (ah P d 24 i) λf=>bE (a6 P .empty .len [24] [f]) (a6 P d .len [24] [f]) λh=>ad (al P .add 3 U p h.val) λr=>ad (al P .add 3 U r e) λj=>bif dF [0,1,0,4,12,31,0,127,255] [0,1,5,7,8] [⟨0,.read o,λH=>ah P H 27 c⟩,⟨1,.bs p d,λH=>Y⟩,⟨2,.pure i,λH=>Y⟩,⟨3,.read f,λH=>ah P H 24 i⟩,⟨4,h,λH=>a6 P H .len [24] [f]⟩,⟨5,.pure r,λH=>Y⟩,⟨6,.pure e,λH=>Y⟩,⟨7,.pure j,λH=>Y⟩,⟨8,.pure j,λH=>Y⟩] b then(D (j,(h.heap d)))else Y)
def ajN(G:ai)(N:Nat)(a:aa)(b:aa)(H:af):aB Tryz.f201 G N (aO [a,b]) H=AL G a b H:=by
 refine aT (A:=aB Tryz.f201 G N) (aj _) ?_;delta AL;kernel_rfl
def AM(G:ai)(p d:aa)(H:af):O:=aK H (bl (H).next p) λe c=>ad (ah P c 27 e) λA=>aw c (G 75 [A] c) λB k=>ad (bu .not B) λf=>au f U k (aV d) λC l=>au f U l (aE (al P .lss 3 V C (I J 0))) λr m=>ad (aU f (D (Z V)) (D r)) λa=>au a U m (aV d) λs n=>au a U n (aE (ak P 27 e 2)) λt g=>au a U g (qr (ah P g 24 t)) λi h=>au a U h (λq=>bE (a6 P .empty .len [24] [i]) (a6 P h .len [24] [i]) q) λu o=>au a U o (aE (al P .geq 3 U s u)) λv b=>ad (aU a (D (Z V)) (D v)) λw=>ay (D w) (D ((I J (-1)),b)) (ad (ah P b 27 e) λx=>aw b (G 235 [x] b) λy j=>ad (al P .add 3 U y d) λz=>D (z,j))
def ajO(G:ai)(N:Nat)(a:aa)(b:aa)(H:af):aB Tryz.f202 G N (aO [a,b]) H=AM G a b H:=by
 refine aT (A:=aB Tryz.f202 G N) (aj _) ?_;delta AM;kernel_rfl
def AO(G:ai)(K d g:aa)(H:af):O:=aK H (bl (H).next K) λe f=>ad (ah P f 27 e) λaD=>aw f (G 75 [aD] f) λaF z=>ad (bu .not aF) λi=>au i U z (aV d) λL A=>au i U A (aE (al P .lss 3 V L (I J 0))) λM B=>ad (aU i (D (Z V)) (D M)) λb=>au b U B (aV d) λN C=>au b U C (aE (ak P 27 e 2)) λQ n=>au b U n (qr (ah P n 24 Q)) λp o=>au b U o (λq=>bE (a6 P .empty .len [24] [p]) (a6 P o .len [24] [p]) q) λR E=>au b U E (aE (al P .geq 3 U N R)) λS F=>ad (aU b (D (Z V)) (D S)) λh=>au h U F (aV g) λT s=>au h U s (aE (al P .lss 3 V T (I J 0))) λW t=>ad (aU h (D (Z V)) (D W)) λa=>au a U t (aV g) λab u=>au a U u (aE (ak P 27 e 2)) λae j=>au a U j (qr (ah P j 24 ae)) λaj v=>au a U v (aV d) λam w=>au a U w (aE (aH P 24 aj am)) λan x=>au a U x (aE (ak P 46 an 1)) λap k=>au a U k (qr (ah P k 23 ap)) λr l=>au a U l (λq=>bE (a6 P .empty .len [23] [r]) (a6 P l .len [23] [r]) q) λaq y=>au a U y (aE (al P .geq 3 U ab aq)) λar c=>ad (aU a (D (Z V)) (D ar)) λav=>ay (D av) (D ((I J (-1)),c)) (ad (ah P c 27 e) λax=>aw c (G 234 [ax] c) λaz m=>ad (aH P 35 az d) λaA=>ad (ah P m 3 aA) λaB=>ad (al P .add 3 U aB g) λaC=>D (aC,m))
def ajS(G:ai)(N:Nat)(a:aa)(b:aa)(c:aa)(H:af):aB Tryz.f204 G N (aO [a,b,c]) H=AO G a b c H:=by
 refine aT (A:=aB Tryz.f204 G N) (aj _) ?_;delta AO;kernel_rfl
def tN(G:ai)(N:Nat)(a:aa)(H:af):O:=some (a,H)
def akG(G:ai)(N:Nat):∀C H,aD P G N (ae (ae (ae (aG Tryz.f234)))) (ax Tryz.f234) [] (ax Tryz.f234) C H=tN G N (C 3) H:=by
 refine aI (aj _) λC H=> ?_
 delta tN;kernel_rfl
def GB(G:ai)(N:Nat)(u:aa->aa->aa->aa->af->O)(a s:aa)(t g:aa)(H:af):O:=ad (al P .lss 3 U g t) λv=>ay (D v) (ad (aH P 24 s g) λw=>ad (ah P H 46 w) λx=>ba H [I J 0,aa.ao,Z U,I J 0,I J 0,I J 0,aa.ao] λr k=>aF k (aC P k 46 r x) λc=>bE (a6 P .empty .len [35] [a]) (a6 P c .len [35] [a]) λd=>ad (al P .sub 3 V d.val (I J 1)) λn=>ad (aH P 35 a n) λh=>ad (ah P (d.heap c) 3 h) λo=>ad (ak P 46 r 1) λi=>ad (ah P (d.heap c) 23 i) λf=>bE (a6 P .empty .len [23] [f]) (a6 P (d.heap c) .len [23] [f]) λe=>ad (al P .add 3 U o e.val) λp=>kW (e.heap (d.heap c)) (bd P ((e.heap (d.heap c))).next 35 1 [(0,p)]) λq b l=>aw l (bx P l [35,35] a q) λj m=>bif dF [0,0,0,4,12,30,62,0,128,384,1022,2046,4095,8191] [1,2,3,4,5,6,7,8,9,10,11,12,13] [⟨0,.pure a,λH=>Y⟩,⟨1,.pure a,λH=>Y⟩,⟨2,.pure a,λH=>Y⟩,⟨3,d,λH=>a6 P H .len [35] [a]⟩,⟨4,.pure n,λH=>Y⟩,⟨5,.pure h,λH=>Y⟩,⟨6,.read o,λH=>ah P H 3 h⟩,⟨7,.pure i,λH=>Y⟩,⟨8,.read f,λH=>ah P H 23 i⟩,⟨9,e,λH=>a6 P H .len [23] [f]⟩,⟨10,.pure p,λH=>Y⟩,⟨11,.new q b,λH=>Y⟩,⟨12,.bs j m,λH=>Y⟩,⟨13,.pure j,λH=>Y⟩] c then(ad (al P .add 3 V g (I J 1)) λy=>u j s t y m)else Y) (tN G N a H)
def tO(G:ai)(N:Nat):Nat->aa->aa->aa->aa->af->O
 |0,_,_,_,_,_=>Y
 |n+1,b,c,d,a,H=>GB G N (tO G N n) b c d a H
def akE(G:ai)(N:Nat)(b:aa->aa->aa->aa->af->O):∀C H,aD P G N (aq (aq (ae (aq (ae (ae (aG Tryz.f234))))))) (λC H=>b (C 3) (C 8) (C 9) (C 10) H) [(0,(λC H=>tN G N (C 3) H))] (ax Tryz.f234) C H=GB G N b (C 3) (C 8) (C 9) (C 10) H:=by
 refine aI (aj _) λC H=> ?_
 delta GB;generalize tN G N=a;revert a;refine id ?_;intro a;kernel_rfl
def Bd(G:ai)(N:Nat)(d:aa)(H:af):O:=aK H (bl (H).next d) λe b=>aK b (D (.ag (b).next 0 1 1 (D 1),.row U 1 [[I J 0]])) λf a=>ad (ak P 27 e 2) λg=>ad (ah P a 24 g) λc=>a1 P .len [24] [c] a λh=>tO G N N f c h (I J 0) a
def akF(G:ai)(N:Nat)(b:aa)(H:af):aB Tryz.f234 G N (aO [b]) H=Bd G N b H:=by
 refine aT (A:=aB Tryz.f234 G N) ((ar j ((ar j ((ar j (akG G N) ((ar j ((aX j ((a_ (k:=λm C H=>tO G N m (C 3) (C 8) (C 9) (C 10) H) j (λC H=>j) (λm=>akE G N (tO G N m)))))) (aj _))))) (aj _))) (aj _))) ?_;delta Bd;generalize tO G N N=a;revert a;refine id ?_;intro a;kernel_rfl
def Be(G:ai)(k:aa)(H:af):O:=aK H (bl (H).next k) λe b=>ad (ah P b 27 e) λi=>aw b (G 234 [i] b) λj a=>ad (ak P 27 e 2) λf=>ad (ah P a 24 f) λd=>bE (a6 P .empty .len [24] [d]) (a6 P a .len [24] [d]) λc=>ad (aH P 35 j c.val) λg=>ad (ah P (c.heap a) 3 g) λh=>bif dF [0,1,0,4,12,31,63,127] [0,1,5,6,7] [⟨0,.read i,λH=>ah P H 27 e⟩,⟨1,.bs j a,λH=>Y⟩,⟨2,.pure f,λH=>Y⟩,⟨3,.read d,λH=>ah P H 24 f⟩,⟨4,c,λH=>a6 P H .len [24] [d]⟩,⟨5,.pure g,λH=>Y⟩,⟨6,.read h,λH=>ah P H 3 g⟩,⟨7,.pure h,λH=>Y⟩] b then(D (h,(c.heap a)))else Y
def akH(G:ai)(N:Nat)(a:aa)(H:af):aB Tryz.f235 G N (aO [a]) H=Be G a H:=by
 refine aT (A:=aB Tryz.f235 G N) (aj _) ?_;delta Be;kernel_rfl
def Bh(G:ai)(o:aa)(H:af):O:=aK H (bl (H).next o) λd g=>ad (ah P g 27 d) λp=>aw g (G 75 [p] g) λq b=>ad (bu .not q) λr=>ay (D r) (D ((I J 0),b)) (ad (ah P b 27 d) λm=>aw b (G 235 [m] b) λn a=>ad (ak P 27 d 2) λk=>ad (ah P a 24 k) λf=>bE (a6 P .empty .len [24] [f]) (a6 P a .len [24] [f]) λc=>ad (al P .add 3 U n c.val) λl=>ad (ak P 27 d 1) λi=>ad (ah P (c.heap a) 23 i) λe=>bE (a6 P .empty .len [23] [e]) (a6 P (c.heap a) .len [23] [e]) λh=>ad (al P .add 3 U l h.val) λj=>bif dF [0,1,0,4,12,31,0,64,192,511,1023] [0,1,5,9,10] [⟨0,.read m,λH=>ah P H 27 d⟩,⟨1,.bs n a,λH=>Y⟩,⟨2,.pure k,λH=>Y⟩,⟨3,.read f,λH=>ah P H 24 k⟩,⟨4,c,λH=>a6 P H .len [24] [f]⟩,⟨5,.pure l,λH=>Y⟩,⟨6,.pure i,λH=>Y⟩,⟨7,.read e,λH=>ah P H 23 i⟩,⟨8,h,λH=>a6 P H .len [23] [e]⟩,⟨9,.pure j,λH=>Y⟩,⟨10,.pure j,λH=>Y⟩] b then(D (j,(h.heap (c.heap a))))else Y)
def akV(G:ai)(N:Nat)(a:aa)(H:af):aB Tryz.f238 G N (aO [a]) H=Bh G a H:=by
 refine aT (A:=aB Tryz.f238 G N) (aj _) ?_;delta Bh;kernel_rfl
def tP(G:ai)(b d:aa)(g aq:aa)(H:af):O:=ay (D aq) (ad (ak P 75 d 1) λp=>ad (ah P H 3 p) λq=>aw H (G 268 [b,q] H) λr a=>ad (ak P 75 d 4) λh=>ad (ah P a 3 h) λi=>aw a (G 267 [b,I J 1,r,i,I J 0] a) λar c=>bif ((aJ (ah P H 3 h) i&&(aJ (ah P a 3 h) i&&V))&&V)then(D (.tuple [],c))else Y) (ad (al P .eql 3 V g (I J 13)) λs=>ay (D s) (ad (ah P H 75 d) λt=>aw H (G 269 [b,t] H) λau a=>D (.tuple [],a)) (ad (al P .eql 3 V g (I J 18)) λu=>ay (D u) (ad (ak P 75 d 1) λv=>ad (ah P H 3 v) λw=>aw H (G 270 [b,w] H) λx a=>ay (D x) (ad (aL b) λy=>ad (ak P 298 y 2) λz=>ad (ah P a 3 z) λA=>aw a (G 271 [b,A] a) λB c=>ad (ak P 75 d 1) λj=>ad (ah P c 3 j) λk=>aw c (G 268 [b,k] c) λC e=>aw e (G 267 [b,I J 2,B,C,I J 0] e) λav f=>bif ((aJ (ah P a 3 j) k&&(aJ (ah P c 3 j) k&&V))&&V)then(D (.tuple [],f))else Y) (D (.tuple [],a))) (ad (al P .eql 3 V g (I J 19)) λE=>ay (D E) (ad (ak P 75 d 1) λF=>ad (ah P H 3 F) λK=>aw H (G 270 [b,K] H) λL a=>ay (D L) (ad (ak P 75 d 1) λM=>ad (ah P a 3 M) λN=>aw a (G 268 [b,N] a) λQ c=>ad (ak P 75 d 4) λl=>ad (ah P c 3 l) λm=>aw c (G 272 [b,m] c) λR e=>aw e (G 267 [b,I J 2,Q,R,I J 0] e) λax f=>bif ((aJ (ah P a 3 l) m&&(aJ (ah P c 3 l) m&&V))&&V)then(D (.tuple [],f))else Y) (D (.tuple [],a))) (ad (al P .eql 3 V g (I J 20)) λS=>ay (D S) (ad (ak P 75 d 1) λT=>ad (ah P H 3 T) λW=>aw H (G 270 [b,W] H) λab a=>ay (D ab) (ad (ak P 75 d 4) λae=>ad (ah P a 3 ae) λaj=>aw a (G 272 [b,aj] a) λam c=>ad (ak P 75 d 1) λn=>ad (ah P c 3 n) λo=>aw c (G 268 [b,o] c) λap e=>aw e (G 267 [b,I J 2,am,ap,I J 0] e) λaz f=>bif ((aJ (ah P a 3 n) o&&(aJ (ah P c 3 n) o&&V))&&V)then(D (.tuple [],f))else Y) (D (.tuple [],a))) (ad (ah P H 75 d) λan=>aw H (G 273 [b,an] H) λaA a=>D (.tuple [],a))))))
def akJ(G:ai)(N:Nat):∀C H,aD P G N (ae (aq (ae (ae (aG Tryz.f236))))) (ax Tryz.f236) [(0,(ax Tryz.f236))] (ax Tryz.f236) C H=tP G (C 0) (C 3) (C 5) (C 9) H:=by
 refine aI (aj _) λC H=> ?_
 delta tP;kernel_rfl
def Bf(G:ai)(d f:aa)(H:af):O:=aK H (bl (H).next f) λc b=>ad (ak P 75 c 0) λh=>ad (ah P b 3 h) λa=>ad (al P .eql 3 V a (I J 11)) λe=>ay (D e) (tP G d c a e b) (ad (al P .eql 3 V a (I J 12)) λg=>tP G d c a g b)
def akI(G:ai)(N:Nat)(b:aa)(c:aa)(H:af):aB Tryz.f236 G N (aO [b,c]) H=Bf G b c H:=by
 refine aT (A:=aB Tryz.f236 G N) ((ar j ((ar j ((aX j ((ar j (akJ G N) (aj _))))) (aj _))) (aj _))) ?_;delta Bf;generalize tP G=a;revert a;refine id ?_;intro a;kernel_rfl
def BL(G:ai)(c e:aa)(j o p:aa)(H:af):O:=ad (aL c) λf=>ad (ak P 298 f 5) λg=>ad (ah P H 178 g) λh=>ad (bo P 187 [(0,e),(1,j),(2,o),(3,p)]) λi=>aK H (bd P (H).next 178 1 [(0,i)]) λk a=>aw a (bx P a [178,178] h k) λl b=>ad (aL c) λm=>ad (ak P 298 m 5) λn=>aF b (aC P b 178 n l) λd=>D (.tuple [],d)
def amN(G:ai)(N:Nat)(a:aa)(b:aa)(c:aa)(d:aa)(e:aa)(H:af):aB Tryz.f267 G N (aO [a,b,c,d,e]) H=BL G a b c d e H:=by
 refine aT (A:=aB Tryz.f267 G N) (aj _) ?_;delta BL;kernel_rfl
def BM(G:ai)(a b:aa)(H:af):O:=ad (aL a) λi=>ad (ak P 298 i 1) λj=>ad (ah P H 35 j) λk=>ad (aL a) λc=>ad (ak P 298 c 2) λd=>ad (ah P H 3 d) λe=>ad (aH P 35 k e) λf=>ad (ah P H 3 f) λg=>ad (al P .add 3 U g b) λh=>D (h,H)
def amO(G:ai)(N:Nat)(a:aa)(b:aa)(H:af):aB Tryz.f268 G N (aO [a,b]) H=BM G a b H:=by
 refine aT (A:=aB Tryz.f268 G N) (aj _) ?_;delta BM;kernel_rfl
def pf(G:ai)(N:Nat)(c d:aa)(H:af):O:=ad (ak P 75 d 1) λi=>ad (ah P H 3 i) λj=>aw H (G 270 [c,j] H) λk a=>ay (D k) (ad (ak P 75 d 1) λl=>ad (ah P a 3 l) λm=>aw a (G 268 [c,m] a) λn b=>ad (ak P 75 d 3) λe=>ad (ah P b 3 e) λf=>aw b (G 271 [c,f] b) λo g=>aw g (G 267 [c,I J 2,n,o,I J 0] g) λp h=>bif ((aJ (ah P a 3 e) f&&(aJ (ah P b 3 e) f&&V))&&V)then(D (.tuple [],h))else Y) (D (.tuple [],a))
def amR(G:ai)(N:Nat):∀C H,aD P G N (ae (ae (aG Tryz.f269))) (ax Tryz.f269) [] (ax Tryz.f269) C H=pf G N (C 0) (C 3) H:=by
 refine aI (aj _) λC H=> ?_
 delta pf;kernel_rfl
def vc(G:ai)(N:Nat)(a:aa->aa->aa->aa->aa->af->O)(b c:aa)(e f g:aa)(H:af):O:=ad (al P .add 3 V g (I J 1)) λd=>a b c e f d H
def amS(G:ai)(N:Nat)(a:aa->aa->aa->aa->aa->af->O):∀C H,aD P G N (ae (ae (ae (aq (aq (ae (aq (ae (aG Tryz.f269))))))))) (λC H=>a (C 0) (C 3) (C 7) (C 8) (C 9) H) [(0,(λC H=>pf G N (C 0) (C 3) H))] (ax Tryz.f269) C H=vc G N a (C 0) (C 3) (C 7) (C 8) (C 9) H:=by
 refine aI (aj _) λC H=> ?_
 delta vc;kernel_rfl
def Hb(G:ai)(N:Nat)(n:aa->aa->aa->aa->aa->af->O)(b e:aa)(l m d:aa)(H:af):O:=ad (al P .lss 3 U d m) λq=>ay (D q) (ad (aH P 35 l d) λr=>ad (ah P H 3 r) λo=>aw H (G 270 [b,o] H) λs c=>ay (D s) (aw c (G 268 [b,o] c) λv a=>ad (aL b) λt=>ad (ak P 298 t 1) λf=>ad (ah P a 35 f) λg=>ad (ak P 75 e 3) λh=>ad (ah P a 3 h) λi=>ad (aH P 35 g i) λj=>ad (ah P a 3 j) λk=>ad (al P .add 3 U k d) λu=>aw a (G 267 [b,I J 2,u,v,I J 0] a) λw p=>bif ((aJ (ah P c 35 f) g&&(aJ (ah P a 35 f) g&&V))&&((aJ (ah P c 3 h) i&&(aJ (ah P a 3 h) i&&V))&&((aJ (ah P c 3 j) k&&(aJ (ah P a 3 j) k&&V))&&V)))then(vc G N n b e l m d p)else Y) (vc G N n b e l m d c)) (pf G N b e H)
def vd(G:ai)(N:Nat):Nat->aa->aa->aa->aa->aa->af->O
 |0,_,_,_,_,_,_=>Y
 |n+1,a,b,c,d,e,H=>Hb G N (vd G N n) a b c d e H
def amP(G:ai)(N:Nat)(a:aa->aa->aa->aa->aa->af->O):∀C H,aD P G N (aq (aq (ae (aq (ae (aG Tryz.f269)))))) (λC H=>a (C 0) (C 3) (C 7) (C 8) (C 9) H) [(0,(λC H=>pf G N (C 0) (C 3) H))] (ax Tryz.f269) C H=Hb G N a (C 0) (C 3) (C 7) (C 8) (C 9) H:=by
 refine aI ((ar j ((ar j ((ar j (amS G N a) (aj _))) (aj _))) (aj _))) λC H=> ?_
 delta Hb;generalize pf G N=b;generalize vc G N a=c;revert b c;refine id ?_;intro b c;kernel_rfl
def BN(G:ai)(N:Nat)(d e:aa)(H:af):O:=aK H (bl (H).next e) λb a=>ad (ak P 75 b 5) λf=>ad (ah P a 35 f) λc=>a1 P .len [35] [c] a λg=>vd G N N d b c g (I J 0) a
def amQ(G:ai)(N:Nat)(b:aa)(c:aa)(H:af):aB Tryz.f269 G N (aO [b,c]) H=BN G N b c H:=by
 refine aT (A:=aB Tryz.f269 G N) ((ar j ((ar j (amR G N) ((ar j ((aX j ((a_ (k:=λm C H=>vd G N m (C 0) (C 3) (C 7) (C 8) (C 9) H) j (λC H=>j) (λm=>amP G N (vd G N m)))))) (aj _))))) (aj _))) ?_;delta BN;generalize vd G N N=a;revert a;refine id ?_;intro a;kernel_rfl
def BO(G:ai)(l e:aa)(H:af):O:=ad (al P .geq 3 V e (I J 0)) λa=>au a V H (aV l) λv f=>au a V f (aE (aL v)) λw g=>au a V g (aE (ak P 298 w 0)) λm h=>au a V h (aE (ak P 46 m 1)) λn c=>au a V c (qr (ah P c 23 n)) λo i=>au a V i (aV e) λp j=>au a V j (aE (aH P 23 o p)) λr d=>au a V d (qr (ah P d 43 r)) λs b=>au a V b (λq=>bq b (G 194 [s] b) q) λt k=>ad (aU a (D t) (D (Z U))) λu=>D (u,k)
def amT(G:ai)(N:Nat)(a:aa)(b:aa)(H:af):aB Tryz.f270 G N (aO [a,b]) H=BO G a b H:=by
 refine aT (A:=aB Tryz.f270 G N) (aj _) ?_;delta BO;kernel_rfl
def BP(G:ai)(a b:aa)(H:af):O:=ad (aL a) λd=>ad (ak P 298 d 3) λe=>ad (ah P H 3 e) λf=>ad (al P .add 3 U f b) λc=>D (c,H)
def amU(G:ai)(N:Nat)(a:aa)(b:aa)(H:af):aB Tryz.f271 G N (aO [a,b]) H=BP G a b H:=by
 refine aT (A:=aB Tryz.f271 G N) (aj _) ?_;delta BP;kernel_rfl
def BQ(G:ai)(a b:aa)(H:af):O:=ad (aL a) λi=>ad (ak P 298 i 3) λj=>ad (ah P H 3 j) λk=>ad (aL a) λc=>ad (ak P 298 c 4) λd=>ad (ah P H 24 d) λe=>a1 P .len [24] [e] H λf=>ad (al P .add 3 U k f) λg=>ad (al P .add 3 U g b) λh=>D (h,H)
def amV(G:ai)(N:Nat)(a:aa)(b:aa)(H:af):aB Tryz.f272 G N (aO [a,b]) H=BQ G a b H:=by
 refine aT (A:=aB Tryz.f272 G N) (aj _) ?_;delta BQ;kernel_rfl
def BR(G:ai)(b aq:aa)(H:af):O:=aK H (bl (H).next aq) λa ae=>ad (ak P 75 a 0) λa0=>ad (ah P ae 3 a0) λa8=>ad (al P .eql 3 V a8 (I J 3)) λx=>au x V ae (aV b) λbn an=>au x V an (aE (ak P 75 a 1)) λar am=>au x V am (qr (ah P am 3 ar)) λaB F=>au x V F (λq=>bq F (G 270 [bn,aB] F) q) λaC k=>ad (aU x (D aC) (D (Z U))) λaD=>ay (D aD) (ad (ak P 75 a 1) λaF=>ad (ah P k 3 aF) λaG=>aw k (G 268 [b,aG] k) λaH l=>ad (ak P 75 a 2) λM=>ad (ah P l 3 M) λN=>aw l (G 268 [b,N] l) λaI s=>aw s (G 267 [b,I J 2,aH,aI,I J 0] s) λbx t=>bif ((aJ (ah P k 3 M) N&&(aJ (ah P l 3 M) N&&V))&&V)then(D (.tuple [],t))else Y) (ad (ak P 75 a 0) λaL=>ad (ah P k 3 aL) λaM=>ad (al P .eql 3 V aM (I J 6)) λu=>au u V k (aV b) λaN l=>au u V l (aE (ak P 75 a 1)) λaO s=>au u V s (qr (ah P s 3 aO)) λaP t=>au u V t (λq=>bq t (G 270 [aN,aP] t) q) λaQ h=>ad (aU u (D aQ) (D (Z U))) λaR=>ay (D aR) (ad (ak P 75 a 1) λaS=>ad (ah P h 3 aS) λaT=>aw h (G 268 [b,aT] h) λaW c=>ad (ak P 75 a 2) λQ=>ad (ah P c 3 Q) λR=>aw c (G 268 [b,R] c) λaX d=>ad (ak P 75 a 3) λA=>ad (ah P d 3 A) λB=>aw d (G 267 [b,I J 3,aW,aX,B] d) λbz m=>bif ((aJ (ah P h 3 Q) R&&(aJ (ah P c 3 Q) R&&V))&&((aJ (ah P h 3 A) B&&(aJ (ah P c 3 A) B&&(aJ (ah P d 3 A) B&&V)))&&V))then(D (.tuple [],m))else Y) (ad (ak P 75 a 0) λaY=>ad (ah P h 3 aY) λaZ=>ad (al P .eql 3 V aZ (I J 8)) λv=>au v V h (aV b) λa1 c=>au v V c (aE (ak P 75 a 1)) λa2 d=>au v V d (qr (ah P d 3 a2)) λa3 m=>au v V m (λq=>bq m (G 270 [a1,a3] m) q) λa4 i=>ad (aU v (D a4) (D (Z U))) λa5=>ay (D a5) (ad (ak P 75 a 1) λa6=>ad (ah P i 3 a6) λa7=>aw i (G 268 [b,a7] i) λa9 j=>ad (ak P 75 a 2) λS=>ad (ah P j 3 S) λT=>aw j (G 268 [b,T] j) λa_ n=>aw n (G 267 [b,I J 3,a9,a_,I J 0] n) λbA o=>bif ((aJ (ah P i 3 S) T&&(aJ (ah P j 3 S) T&&V))&&V)then(D (.tuple [],o))else Y) (ad (ak P 75 a 0) λba=>ad (ah P i 3 ba) λbb=>ad (al P .eql 3 V bb (I J 7)) λw=>au w V i (aV b) λbc j=>au w V j (aE (ak P 75 a 2)) λbd n=>au w V n (qr (ah P n 3 bd)) λbe o=>au w V o (λq=>bq o (G 270 [bc,be] o) q) λbf e=>ad (aU w (D bf) (D (Z U))) λbg=>ay (D bg) (ad (ak P 75 a 1) λbh=>ad (ah P e 3 bh) λbi=>aw e (G 268 [b,bi] e) λbj f=>ad (ak P 75 a 2) λW=>ad (ah P f 3 W) λab=>aw f (G 268 [b,ab] f) λbk g=>ad (ak P 75 a 3) λC=>ad (ah P g 3 C) λE=>aw g (G 267 [b,I J 4,bj,bk,E] g) λbB p=>bif ((aJ (ah P e 3 W) ab&&(aJ (ah P f 3 W) ab&&V))&&((aJ (ah P e 3 C) E&&(aJ (ah P f 3 C) E&&(aJ (ah P g 3 C) E&&V)))&&V))then(D (.tuple [],p))else Y) (ad (ak P 75 a 0) λbm=>ad (ah P e 3 bm) λbo=>ad (al P .eql 3 V bo (I J 9)) λy=>au y V e (aV b) λbp f=>au y V f (aE (ak P 75 a 3)) λbr g=>au y V g (qr (ah P g 3 br)) λbt p=>au y V p (λq=>bq p (G 270 [bp,bt] p) q) λbu r=>ad (aU y (D bu) (D (Z U))) λbv=>ay (D bv) (ad (ak P 75 a 1) λav=>ad (ah P r 3 av) λax=>aw r (G 268 [b,ax] r) λaz z=>ad (ak P 75 a 3) λK=>ad (ah P z 3 K) λL=>aw z (G 268 [b,L] z) λaA aj=>aw aj (G 267 [b,I J 4,az,aA,I J 0] aj) λbw ap=>bif ((aJ (ah P r 3 K) L&&(aJ (ah P z 3 K) L&&V))&&V)then(D (.tuple [],ap))else Y) (D (.tuple [],r))))))
def amW(G:ai)(N:Nat)(a:aa)(b:aa)(H:af):aB Tryz.f273 G N (aO [a,b]) H=BR G a b H:=by
 refine aT (A:=aB Tryz.f273 G N) (aj _) ?_;delta BR;kernel_rfl
end
end
section
set_option maxRecDepth 100000
noncomputable section
def m8(G:ai)(N:Nat)(b d:aa)(H:af):O:=ad (ah P H 181 d) λc=>aF H (aC P H 181 b c) λa=>ad (ah P a 181 b) λr=>D (.tuple [r,I J 0],a)
def akT(G:ai)(N:Nat):∀C H,aD P G N (ae (ae (ae (ae (ae (ae (ae (ae (ae (ae (ae (aG Tryz.f237)))))))))))) (ax Tryz.f237) [] (ax Tryz.f237) C H=m8 G N (C 8) (C 16) H:=by
 refine aI (aj _) λC H=> ?_
 delta m8;kernel_rfl
def pb(G:ai)(N:Nat)(a:aa->aa->aa->aa->aa->aa->af->O)(g h:aa)(d f:aa)(b c:aa)(H:af):O:=ad (al P .add 3 V c (I J 1)) λe=>a g h d f b e H
def akU(G:ai)(N:Nat)(a:aa->aa->aa->aa->aa->aa->af->O):∀C H,aD P G N (ae (ae (ae (aq (aq (ae (aq (ae (ae (ae (ae (ae (ae (ae (ae (ae (ae (aG Tryz.f237)))))))))))))))))) (λC H=>a (C 6) (C 8) (C 12) (C 16) (C 104) (C 105) H) [(6,(λC H=>m8 G N (C 8) (C 16) H))] (ax Tryz.f237) C H=pb G N a (C 6) (C 8) (C 12) (C 16) (C 104) (C 105) H:=by
 refine aI (aj _) λC H=> ?_
 delta pb;kernel_rfl
def GD(G:ai)(N:Nat)(r:aa->aa->aa->aa->aa->aa->af->O)(s:aa->aa->aa->aa->aa->aa->aa->aa->aa->af->O)(p q:aa)(f k:aa)(l m:aa)(n o c:aa)(H:af):O:=ad (al P .lss 3 U c o) λu=>ay (D u) (aw H (G 282 [f,l,c] H) λw a=>ad (aL f) λv=>ad (ak P 331 v 2) λi=>ad (ah P a 326 i) λj=>ad (aH P 326 j w) λx=>ad (ah P a 231 x) λy=>aw a (G 281 [y] a) λz b=>ad (ak P 181 k 1) λd=>ad (ah P b 78 d) λe=>ad (aH P 78 e l) λg=>ad (ah P b 30 g) λh=>ad (aH P 30 h c) λA=>aF b (aC P b 35 A z) λt=>bif ((aJ (ah P H 326 i) j&&(aJ (ah P a 326 i) j&&V))&&((aJ (ah P H 78 d) e&&(aJ (ah P a 78 d) e&&(aJ (ah P b 78 d) e&&V)))&&((aJ (ah P H 30 g) h&&(aJ (ah P a 30 g) h&&(aJ (ah P b 30 g) h&&V)))&&V)))then(ad (al P .add 3 V c (I J 1)) λB=>s p q f k l m n o B t)else Y) (pb G N r p q f k m n H)
def tU(G:ai)(N:Nat)(a:aa->aa->aa->aa->aa->aa->af->O):Nat->aa->aa->aa->aa->aa->aa->aa->aa->aa->af->O
 |0,_,_,_,_,_,_,_,_,_,_=>Y
 |n+1,i,j,f,g,h,b,c,d,e,H=>GD G N a (tU G N a n) i j f g h b c d e H
def akL(G:ai)(N:Nat)(a:aa->aa->aa->aa->aa->aa->af->O)(c:aa->aa->aa->aa->aa->aa->aa->aa->aa->af->O):∀C H,aD P G N (aq (aq (ae (ae (ae (aq (aq (ae (ae (aq (aq (ae (aq (ae (ae (ae (ae (ae (ae (ae (ae (ae (ae (aG Tryz.f237)))))))))))))))))))))))) (λC H=>c (C 6) (C 8) (C 12) (C 16) (C 18) (C 104) (C 105) (C 114) (C 115) H) [(8,(λC H=>pb G N a (C 6) (C 8) (C 12) (C 16) (C 104) (C 105) H)),(7,(λC H=>pb G N a (C 6) (C 8) (C 12) (C 16) (C 104) (C 105) H)),(6,(λC H=>m8 G N (C 8) (C 16) H))] (ax Tryz.f237) C H=GD G N a c (C 6) (C 8) (C 12) (C 16) (C 18) (C 104) (C 105) (C 114) (C 115) H:=by
 refine aI (aj _) λC H=> ?_
 delta GD;generalize pb G N a=b;revert b;refine id ?_;intro b;kernel_rfl
def GC(G:ai)(N:Nat)(k:aa->aa->aa->aa->aa->aa->af->O)(f j:aa)(p e:aa)(h a:aa)(H:af):O:=ad (al P .lss 3 U a h) λl=>ay (D l) (ad (ak P 181 e 1) λc=>ad (ah P H 78 c) λd=>ad (ah P H 3 f) λi=>aK H (fP (gu P ⟨.leaf,(H).next⟩ 30 i i) (H).next) λm b=>ad (aH P 78 d a) λn=>aF b (aC P b 30 n m) λg=>bif ((aJ (ah P H 78 c) d&&(aJ (ah P b 78 c) d&&V))&&V)then(ad (ah P g 3 f) λo=>tU G N k N f j p e a h a o (I J 0) g)else Y) (m8 G N j e H)
def tT(G:ai)(N:Nat):Nat->aa->aa->aa->aa->aa->aa->af->O
 |0,_,_,_,_,_,_,_=>Y
 |n+1,e,f,c,d,a,b,H=>GC G N (tT G N n) e f c d a b H
def akK(G:ai)(N:Nat)(a:aa->aa->aa->aa->aa->aa->af->O):∀C H,aD P G N (aq (aq (ae (aq (ae (ae (ae (ae (ae (ae (ae (ae (ae (ae (aG Tryz.f237))))))))))))))) (λC H=>a (C 6) (C 8) (C 12) (C 16) (C 104) (C 105) H) [(6,(λC H=>m8 G N (C 8) (C 16) H))] (ax Tryz.f237) C H=GC G N a (C 6) (C 8) (C 12) (C 16) (C 104) (C 105) H:=by
 refine aI ((ar j ((ar j ((ar j (akU G N a) ((aX j ((ar j ((ar j ((ar j ((aX j ((a_ (k:=λm C H=>tU G N a m (C 6) (C 8) (C 12) (C 16) (C 18) (C 104) (C 105) (C 114) (C 115) H) j (λC H=>j) (λm=>akL G N a (tU G N a m)))))) (aj _))) (aj _))) (aj _))))))) (aj _))) (aj _))) λC H=> ?_
 delta GC;generalize m8 G N=b;generalize tU G N a N=c;revert b c;refine id ?_;intro b c;kernel_rfl
def tS(G:ai)(N:Nat)(f g:aa)(e a:aa)(H:af):O:=ad (ak P 181 a 1) λb=>ad (ah P H 78 b) λc=>a1 P .len [78] [c] H λd=>tT G N N f g e a d (I J 0) H
def akS(G:ai)(N:Nat):∀C H,aD P G N (ae (ae (ae (ae (ae (ae (ae (ae (ae (ae (aG Tryz.f237))))))))))) (ax Tryz.f237) [] (ax Tryz.f237) C H=tS G N (C 6) (C 8) (C 12) (C 16) H:=by
 refine aI ((ar j (akT G N) ((ar j ((aX j ((a_ (k:=λm C H=>tT G N m (C 6) (C 8) (C 12) (C 16) (C 104) (C 105) H) j (λC H=>j) (λm=>akK G N (tT G N m)))))) (aj _))))) λC H=> ?_
 delta tS;generalize tT G N N=a;revert a;refine id ?_;intro a;kernel_rfl
def GF(G:ai)(N:Nat)(j:aa->aa->aa->aa->aa->aa->af->O)(g h:aa)(c d:aa)(i b:aa)(H:af):O:=ad (al P .lss 3 U b i) λn=>ay (D n) (ad (aL c) λo=>ad (ak P 331 o 2) λp=>ad (ah P H 326 p) λq=>ad (aH P 326 q b) λr=>ad (ah P H 231 r) λs=>aw H (G 281 [s] H) λt a=>ad (ak P 181 d 0) λe=>ad (ah P a 30 e) λf=>ad (aH P 30 f b) λl=>aF a (aC P a 35 l t) λk=>bif ((aJ (ah P H 30 e) f&&(aJ (ah P a 30 e) f&&V))&&V)then(ad (al P .add 3 V b (I J 1)) λm=>j g h c d i m k)else Y) (tS G N g h c d H)
def tV(G:ai)(N:Nat):Nat->aa->aa->aa->aa->aa->aa->af->O
 |0,_,_,_,_,_,_,_=>Y
 |n+1,c,d,a,b,e,f,H=>GF G N (tV G N n) c d a b e f H
def akM(G:ai)(N:Nat)(b:aa->aa->aa->aa->aa->aa->af->O):∀C H,aD P G N (aq (aq (ae (aq (ae (ae (ae (ae (ae (ae (ae (ae (ae (aG Tryz.f237)))))))))))))) (λC H=>b (C 6) (C 8) (C 12) (C 16) (C 85) (C 86) H) [(4,(λC H=>tS G N (C 6) (C 8) (C 12) (C 16) H))] (ax Tryz.f237) C H=GF G N b (C 6) (C 8) (C 12) (C 16) (C 85) (C 86) H:=by
 refine aI (aj _) λC H=> ?_
 delta GF;generalize tS G N=a;revert a;refine id ?_;intro a;kernel_rfl
def tR(G:ai)(N:Nat)(j f:aa)(l n i:aa)(H:af):O:=aw H (G 280 [i] H) λt a=>ad (ah P a 3 j) λg=>aK a (fP (gu P ⟨.leaf,(a).next⟩ 30 g g) (a).next) λm b=>ad (ah P b 3 f) λc=>aK b (fP (gu P ⟨.leaf,(b).next⟩ 78 c c) (b).next) λo k=>ad (bo P 181 [(0,m),(1,o)]) λp=>ba k [aa.ao,aa.ao] λe h=>aF h (aC P h 181 e p) λd=>bif ((aJ (ah P a 3 j) g&&V)&&((aJ (ah P a 3 f) c&&(aJ (ah P b 3 f) c&&V))&&V))then(ad (ak P 181 e 0) λq=>ad (ah P d 30 q) λr=>a1 P .len [30] [r] d λs=>tV G N N l n i e s (I J 0) d)else Y
def akR(G:ai)(N:Nat):∀C H,aD P G N (ae (ae (ae (ae (ae (ae (ae (aG Tryz.f237)))))))) (ax Tryz.f237) [] (ax Tryz.f237) C H=tR G N (C 4) (C 5) (C 6) (C 8) (C 12) H:=by
 refine aI ((ar j ((ar j ((ar j (akS G N) ((ar j ((aX j ((a_ (k:=λm C H=>tV G N m (C 6) (C 8) (C 12) (C 16) (C 85) (C 86) H) j (λC H=>j) (λm=>akM G N (tV G N m)))))) (aj _))))) (aj _))) (aj _))) λC H=> ?_
 delta tR;generalize tV G N N=a;revert a;refine id ?_;intro a;kernel_rfl
def GG(G:ai)(N:Nat)(h:aa->aa->aa->aa->aa->aa->aa->af->O)(c d:aa)(e g:aa)(a f b:aa)(H:af):O:=ad (al P .lss 3 U b f) λj=>ay (D j) (aw H (G 279 [a,b] H) λl i=>ad (al P .add 3 V b (I J 1)) λk=>h c d e g a f k i) (tR G N c d e g a H)
def tW(G:ai)(N:Nat):Nat->aa->aa->aa->aa->aa->aa->aa->af->O
 |0,_,_,_,_,_,_,_,_=>Y
 |n+1,b,c,d,g,a,e,f,H=>GG G N (tW G N n) b c d g a e f H
def akN(G:ai)(N:Nat)(b:aa->aa->aa->aa->aa->aa->aa->af->O):∀C H,aD P G N (aq (aq (ae (aq (ae (ae (ae (ae (ae (ae (aG Tryz.f237))))))))))) (λC H=>b (C 4) (C 5) (C 6) (C 8) (C 12) (C 68) (C 69) H) [(2,(λC H=>tR G N (C 4) (C 5) (C 6) (C 8) (C 12) H))] (ax Tryz.f237) C H=GG G N b (C 4) (C 5) (C 6) (C 8) (C 12) (C 68) (C 69) H:=by
 refine aI (aj _) λC H=> ?_
 delta GG;generalize tR G N=a;revert a;refine id ?_;intro a;kernel_rfl
def tQ(G:ai)(N:Nat)(c d:aa)(e f:aa)(a b:aa)(H:af):O:=tW G N N c d e f b a (I J 0) H
def akQ(G:ai)(N:Nat):∀C H,aD P G N (ae (ae (ae (ae (ae (ae (aG Tryz.f237))))))) (ax Tryz.f237) [] (ax Tryz.f237) C H=tQ G N (C 4) (C 5) (C 6) (C 8) (C 11) (C 12) H:=by
 refine aI ((ar j (akR G N) ((ar j ((aX j ((a_ (k:=λm C H=>tW G N m (C 4) (C 5) (C 6) (C 8) (C 12) (C 68) (C 69) H) j (λC H=>j) (λm=>akN G N (tW G N m)))))) (aj _))))) λC H=> ?_
 delta tQ;generalize tW G N N=a;revert a;refine id ?_;intro a;kernel_rfl
def GI(G:ai)(N:Nat)(m:aa->aa->aa->aa->aa->aa->aa->aa->aa->af->O)(g h:aa)(k l:aa)(e b:aa)(i j c:aa)(H:af):O:=ad (al P .lss 3 U c j) λo=>ay (D o) (ad (aH P 178 i c) λp=>ad (ah P H 187 p) λq=>ba H [I J 0,I J 0,I J 0,I J 0] λf d=>aF d (aC P d 187 f q) λa=>ad (ah P a 187 f) λr=>aw a (G 278 [b,r] a) λt n=>ad (al P .add 3 V c (I J 1)) λs=>m g h k l e b i j s n) (tQ G N g h k l e b H)
def tX(G:ai)(N:Nat):Nat->aa->aa->aa->aa->aa->aa->aa->aa->aa->af->O
 |0,_,_,_,_,_,_,_,_,_,_=>Y
 |n+1,c,d,g,i,a,b,e,f,h,H=>GI G N (tX G N n) c d g i a b e f h H
def akO(G:ai)(N:Nat)(b:aa->aa->aa->aa->aa->aa->aa->aa->aa->af->O):∀C H,aD P G N (aq (aq (ae (aq (ae (ae (ae (ae (ae (aG Tryz.f237)))))))))) (λC H=>b (C 4) (C 5) (C 6) (C 8) (C 11) (C 12) (C 58) (C 59) (C 60) H) [(0,(λC H=>tQ G N (C 4) (C 5) (C 6) (C 8) (C 11) (C 12) H))] (ax Tryz.f237) C H=GI G N b (C 4) (C 5) (C 6) (C 8) (C 11) (C 12) (C 58) (C 59) (C 60) H:=by
 refine aI (aj _) λC H=> ?_
 delta GI;generalize tQ G N=a;revert a;refine id ?_;intro a;kernel_rfl
def Bg(G:ai)(N:Nat)(L M:aa)(Q w:aa)(H:af):O:=aK H (bl (H).next L) λb y=>aK y (bl (y).next M) λn A=>aK A (bl (A).next Q) λc F=>ba F [aa.ao,aa.ao] λx p=>ad (ah P p 3 b) λR=>aw p (G 274 [R,I J 70001] p) λu B=>au u V B (qr (ah P B 3 n)) λS s=>au u V s (λq=>bq s (G 274 [S,I J 61] s) q) λT C=>ad (aU u (D T) (D (Z U))) λv=>au v V C (qr (ah P C 3 c)) λW t=>au v V t (λq=>bq t (G 274 [W,I J 9] t) q) λab K=>ad (aU v (D ab) (D (Z U))) λae=>ad (bu .not ae) λm=>au m U K (aV w) λaj E=>au m U E (aV (.func (.func 276) [] [b,n,c])) λak o=>au m U o (λq=>bq o (G 275 [aj,ak] o) q) λam a=>ad (aU m (D (Z V)) (D am)) λan=>ay (D an) (aF a (aC P a 181 x (.agg [aa.ao,aa.ao])) λe=>ad (ah P e 181 x) λr=>D (.tuple [r,I J 5],e)) (ad (ah P a 3 b) λap=>ad (ah P a 3 n) λaq=>ad (ah P a 3 c) λar=>ad (al P .mul 3 U aq ar) λav=>ad (al P .add 3 U ap av) λd=>ad (ah P a 3 b) λf=>ad (ah P a 3 c) λg=>aK a (fP (gu P ⟨.leaf,(a).next⟩ 326 d d) (a).next) λax e=>aK e (fP (gu P ⟨.leaf,(e).next⟩ 30 d d) (e).next) λaz h=>aK h (fP (gu P ⟨.leaf,(h).next⟩ 327 d d) (h).next) λaA i=>aK i (fP (gu P ⟨.leaf,(i).next⟩ 326 d d) (i).next) λaB k=>aK k (D (.map (k).next,.map [])) λaD j=>aK j (fP (gu P ⟨.leaf,(j).next⟩ 95 d d) (j).next) λaE l=>ad (bo P 331 [(0,f),(1,g),(2,ax),(3,az),(4,aA),(5,aB),(6,aD),(8,aE)]) λaG=>aK l (bl (l).next aG) λaH z=>bif ((aJ (ah P a 3 b) f&&(aJ (ah P e 3 b) f&&(aJ (ah P h 3 b) f&&(aJ (ah P i 3 b) f&&(aJ (ah P k 3 b) f&&(aJ (ah P j 3 b) f&&(aJ (ah P l 3 b) f&&V)))))))&&((aJ (ah P a 3 c) g&&(aJ (ah P e 3 c) g&&(aJ (ah P h 3 c) g&&(aJ (ah P i 3 c) g&&(aJ (ah P k 3 c) g&&(aJ (ah P j 3 c) g&&(aJ (ah P l 3 c) g&&V)))))))&&V))then(a1 P .len [178] [w] z λaI=>tX G N N b n c x d aH w aI (I J 0) z)else Y)
def akP(G:ai)(N:Nat)(b:aa)(c:aa)(d:aa)(e:aa)(H:af):aB Tryz.f237 G N (aO [b,c,d,e]) H=Bg G N b c d e H:=by
 refine aT (A:=aB Tryz.f237 G N) ((ar j ((ar j ((ar j ((ar j ((ar j ((ar j (akQ G N) ((ar j ((aX j ((a_ (k:=λm C H=>tX G N m (C 4) (C 5) (C 6) (C 8) (C 11) (C 12) (C 58) (C 59) (C 60) H) j (λC H=>j) (λm=>akO G N (tX G N m)))))) (aj _))))) (aj _))) (aj _))) (aj _))) (aj _))) (aj _))) ?_;delta Bg;generalize tX G N N=a;revert a;refine id ?_;intro a;kernel_rfl
def BS(G:ai)(b f:aa)(H:af):O:=ad (al P .geq 3 V b (I J 0)) λa=>au a V H (aV b) λi c=>au a V c (aV f) λj d=>au a V d (aE (al P .lss 3 U i j)) λg e=>ad (aU a (D g) (D (Z U))) λh=>D (h,e)
def amX(G:ai)(N:Nat)(a:aa)(b:aa)(H:af):aB Tryz.f274 G N (aO [a,b]) H=BS G a b H:=by
 refine aT (A:=aB Tryz.f274 G N) (aj _) ?_;delta BS;kernel_rfl
def BU(G:ai)(c d:aa)(g h:aa)(H:af):O:=aK H (bl (H).next c) λi a=>ad (ah P a 187 i) λj=>ad (ah P a 3 d) λk=>ad (ah P a 3 g) λl=>ad (ah P a 3 h) λm=>aw a (G 277 [j,k,l,m] a) λe b=>ad (bu .not e) λf=>D (f,b)
def amZ(G:ai)(N:Nat)(a:aa)(b:aa)(c:aa)(d:aa)(H:af):aB Tryz.f276 G N (aO [a,b,c,d]) H=BU G a b c d H:=by
 refine aT (A:=aB Tryz.f276 G N) (aj _) ?_;delta BU;kernel_rfl
def pg(G:ai)(H:af):O:=some ((Z U),H)
def am1(G:ai)(N:Nat):∀C H,aD P G N (ae (ae (aG Tryz.f277))) (ax Tryz.f277) [] (ax Tryz.f277) C H=pg G H:=by
 refine aI (aj _) λC H=> ?_
 delta pg;kernel_rfl
def ve(G:ai)(l m:aa)(r c:aa)(p s:aa)(H:af):O:=ay (D s) (ad (ak P 187 c 1) λt=>ad (ah P H 3 t) λu=>aw H (G 274 [u,l] H) λd g=>au d V g (aE (ak P 187 c 2)) λv b=>au d V b (qr (ah P b 3 v)) λw h=>au d V h (aV l) λx a=>au d V a (λq=>bq a (G 274 [w,x] a) q) λy i=>ad (aU d (D y) (D (Z U))) λe=>au e V i (aE (ak P 187 c 3)) λz k=>au e V k (qr (ah P k 3 z)) λA n=>au e V n (aV r) λB j=>au e V j (λq=>bq j (G 274 [A,B] j) q) λC o=>ad (aU e (D C) (D (Z U))) λE=>D (E,o)) (ad (al P .eql 3 V p (I J 5)) λF=>ay (D F) (ad (ak P 187 c 1) λK=>ad (ah P H 3 K) λL=>aw H (G 274 [L,m] H) λf g=>au f V g (aE (ak P 187 c 2)) λM b=>au f V b (qr (ah P b 3 M)) λN h=>au f V h (aV m) λQ a=>au f V a (λq=>bq a (G 274 [N,Q] a) q) λR i=>ad (aU f (D R) (D (Z U))) λS=>D (S,i)) (pg G H))
def am2(G:ai)(N:Nat):∀C H,aD P G N (ae (ae (ae (ae (ae (aq (ae (aq (ae (aG Tryz.f277)))))))))) (λC H=>pg G H) [(0,(λC H=>pg G H))] (ax Tryz.f277) C H=ve G (C 1) (C 2) (C 3) (C 4) (C 10) (C 35) H:=by
 refine aI (aj _) λC H=> ?_
 delta ve;generalize pg G=a;revert a;refine id ?_;intro a;kernel_rfl
def BV(G:ai)(o f:aa)(l m:aa)(H:af):O:=aK H (bl (H).next o) λc a=>ad (ak P 187 c 0) λM=>ad (ah P a 3 M) λd=>ad (al P .eql 3 V d (I J 1)) λp=>ay (D p) (ad (ak P 187 c 1) λr=>ad (ah P a 3 r) λs=>aw a (G 274 [s,f] a) λg i=>au g V i (aE (ak P 187 c 2)) λt e=>au g V e (qr (ah P e 3 t)) λu j=>au g V j (aV l) λv b=>au g V b (λq=>bq b (G 274 [u,v] b) q) λw k=>ad (aU g (D w) (D (Z U))) λx=>D (x,k)) (ad (al P .eql 3 V d (I J 2)) λy=>ay (D y) (ad (ak P 187 c 1) λz=>ad (ah P a 3 z) λA=>aw a (G 274 [A,f] a) λh i=>au h V i (aE (ak P 187 c 2)) λB e=>au h V e (qr (ah P e 3 B)) λC j=>au h V j (aV f) λE b=>au h V b (λq=>bq b (G 274 [C,E] b) q) λF k=>ad (aU h (D F) (D (Z U))) λK=>D (K,k)) (ad (al P .eql 3 V d (I J 3)) λn=>ay (D n) (ve G f l m c d n a) (ad (al P .eql 3 V d (I J 4)) λL=>ve G f l m c d L a)))
def am0(G:ai)(N:Nat)(b:aa)(c:aa)(d:aa)(e:aa)(H:af):aB Tryz.f277 G N (aO [b,c,d,e]) H=BV G b c d e H:=by
 refine aT (A:=aB Tryz.f277 G N) ((ar j ((ar j (am1 G N) ((ar j ((aX j ((ar j ((bz j (aj _) ((ar j ((bz j (aj _) ((ar j (am2 G N) (aj _))))) (aj _))))) (aj _))))) (aj _))))) (aj _))) ?_;delta BV;generalize ve G=a;revert a;refine id ?_;intro a;kernel_rfl
def Hc(G:ai)(N:Nat)(n:aa->aa->aa->aa->af->O)(a c:aa)(m b:aa)(H:af):O:=ad (al P .lss 3 U b m) λt=>ay (D t) (ad (ak P 187 c 1) λu=>ad (ah P H 3 u) λv=>aw H (G 282 [a,v,b] H) λw d=>ad (ak P 187 c 2) λi=>ad (ah P d 3 i) λj=>aw d (G 282 [a,j,b] d) λx k=>aw k (G 312 [a,w,x] k) λA e=>bif ((aJ (ah P H 3 i) j&&(aJ (ah P d 3 i) j&&V))&&V)then(ad (ak P 187 c 2) λy=>ad (ah P e 3 y) λp=>aw e (G 282 [a,p,b] e) λq f=>ad (ak P 187 c 1) λg=>ad (ah P f 3 g) λh=>aw f (G 282 [a,h,b] f) λr l=>aw l (G 312 [a,q,r] l) λz o=>bif ((aJ (ah P e 3 g) h&&(aJ (ah P f 3 g) h&&V))&&V)then(ad (al P .add 3 V b (I J 1)) λs=>n a c m s o)else Y)else Y) (D (.tuple [],H))
def vf(G:ai)(N:Nat):Nat->aa->aa->aa->aa->af->O
 |0,_,_,_,_,_=>Y
 |n+1,a,b,c,d,H=>Hc G N (vf G N n) a b c d H
def am3(G:ai)(N:Nat)(a:aa->aa->aa->aa->af->O):∀C H,aD P G N (aq (aq (ae (aq (ae (ae (ae (ae (ae (ae (ae (ae (ae (aq (ae (ae (aG Tryz.f278))))))))))))))))) (λC H=>a (C 0) (C 3) (C 81) (C 82) H) [(1,(ax Tryz.f278)),(0,(ax Tryz.f278))] (ax Tryz.f278) C H=Hc G N a (C 0) (C 3) (C 81) (C 82) H:=by
 refine aI (aj _) λC H=> ?_
 delta Hc;kernel_rfl
def BW(G:ai)(N:Nat)(e B:aa)(H:af):O:=aK H (bl (H).next B) λc a=>ad (ak P 187 c 0) λaA=>ad (ah P a 3 aA) λf=>ad (al P .eql 3 V f (I J 1)) λaW=>ay (D aW) (ad (ak P 187 c 1) λC=>ad (ah P a 3 C) λE=>ad (ak P 187 c 2) λF=>ad (ah P a 3 F) λK=>ad (al P .shl 231 V (I .u64 1) K) λL=>aw a (G 311 [e,E,L] a) λaZ b=>D (.tuple [],b)) (ad (al P .eql 3 V f (I J 2)) λM=>ay (D M) (ad (ak P 187 c 2) λQ=>ad (ah P a 3 Q) λR=>ad (ak P 187 c 1) λS=>ad (ah P a 3 S) λT=>aw a (G 312 [e,R,T] a) λa0 b=>D (.tuple [],b)) (ad (al P .eql 3 V f (I J 3)) λW=>ay (D W) (ad (aL e) λae=>ad (ak P 331 ae 4) λp=>ad (ah P a 327 p) λq=>ad (ak P 187 c 2) λr=>ad (ah P a 3 r) λs=>ad (aH P 327 q s) λt=>ad (ah P a 355 t) λu=>ad (ak P 187 c 0) λaj=>ad (ah P a 3 aj) λam=>ad (ak P 187 c 1) λan=>ad (ah P a 3 an) λap=>ad (ak P 187 c 3) λaq=>ad (ah P a 3 aq) λar=>ad (bo P 357 [(0,am),(1,ap),(2,ar)]) λau=>aK a (bd P (a).next 355 1 [(0,au)]) λav b=>aw b (bx P b [355,355] u av) λax d=>ad (aL e) λab=>ad (ak P 331 ab 4) λg=>ad (ah P d 327 g) λh=>ad (ak P 187 c 2) λi=>ad (ah P d 3 i) λj=>ad (aH P 327 h j) λaz=>aF d (aC P d 355 az ax) λo=>bif ((aJ (ah P a 327 p) q&&(aJ (ah P b 327 p) q&&V))&&((aJ (ah P a 3 r) s&&(aJ (ah P b 3 r) s&&V))&&((aJ (ah P a 355 t) u&&(aJ (ah P b 355 t) u&&V))&&((aJ (ah P a 327 g) h&&(aJ (ah P b 327 g) h&&(aJ (ah P d 327 g) h&&V)))&&((aJ (ah P a 3 i) j&&(aJ (ah P b 3 i) j&&(aJ (ah P d 3 i) j&&V)))&&V)))))then(D (.tuple [],o))else Y) (ad (al P .eql 3 V f (I J 4)) λaB=>ay (D aB) (ad (aL e) λaE=>ad (ak P 331 aE 4) λv=>ad (ah P a 327 v) λw=>ad (ak P 187 c 1) λx=>ad (ah P a 3 x) λy=>ad (aH P 327 w y) λz=>ad (ah P a 355 z) λA=>ad (ak P 187 c 0) λaG=>ad (ah P a 3 aG) λaI=>ad (ak P 187 c 2) λaM=>ad (ah P a 3 aM) λaN=>ad (ak P 187 c 3) λaO=>ad (ah P a 3 aO) λaP=>ad (bo P 357 [(0,aI),(1,aN),(2,aP)]) λaQ=>aK a (bd P (a).next 355 1 [(0,aQ)]) λaR b=>aw b (bx P b [355,355] A aR) λaS d=>ad (aL e) λaD=>ad (ak P 331 aD 4) λk=>ad (ah P d 327 k) λl=>ad (ak P 187 c 1) λm=>ad (ah P d 3 m) λn=>ad (aH P 327 l n) λaT=>aF d (aC P d 355 aT aS) λo=>bif ((aJ (ah P a 327 v) w&&(aJ (ah P b 327 v) w&&V))&&((aJ (ah P a 3 x) y&&(aJ (ah P b 3 x) y&&V))&&((aJ (ah P a 355 z) A&&(aJ (ah P b 355 z) A&&V))&&((aJ (ah P a 327 k) l&&(aJ (ah P b 327 k) l&&(aJ (ah P d 327 k) l&&V)))&&((aJ (ah P a 3 m) n&&(aJ (ah P b 3 m) n&&(aJ (ah P d 3 m) n&&V)))&&V)))))then(D (.tuple [],o))else Y) (ad (al P .eql 3 V f (I J 5)) λaU=>ay (D aU) (ad (aL e) λaV=>ad (ak P 331 aV 1) λaX=>ad (ah P a 3 aX) λaY=>vf G N N e c aY (I J 0) a) (D (.tuple [],a))))))
def am4(G:ai)(N:Nat)(b:aa)(c:aa)(H:af):aB Tryz.f278 G N (aO [b,c]) H=BW G N b c H:=by
 refine aT (A:=aB Tryz.f278 G N) ((ar j ((ar j ((aX j ((ar j ((bz j (aj _) ((ar j ((bz j (aj _) ((ar j ((bz j (aj _) ((ar j ((bz j (aj _) ((ar j ((bz j ((ar j ((aX j ((a_ (k:=λm C H=>vf G N m (C 0) (C 3) (C 81) (C 82) H) j (λC H=>j) (λm=>am3 G N (vf G N m)))))) (aj _))) (aj _))) (aj _))))) (aj _))))) (aj _))))) (aj _))))) (aj _))))) (aj _))) (aj _))) ?_;delta BW;generalize vf G N N=a;revert a;refine id ?_;intro a;kernel_rfl
def BX(G:ai)(a b:aa)(H:af):O:=ad (aL a) λo=>ad (ak P 331 o 8) λp=>ad (ah P H 95 p) λq=>ad (aH P 95 q b) λr=>ad (ah P H 4 r) λe=>ad (bu .not e) λf=>ay (D f) (ad (aL a) λg=>ad (ak P 331 g 8) λh=>ad (ah P H 95 h) λi=>ad (aH P 95 i b) λj=>aF H (aC P H 4 j (Z V)) λc=>ad (aL a) λk=>ad (ak P 331 k 7) λl=>ad (jF P 359 l) λm=>ad (jF P 3 b) λn=>aw c (G 313 [m,n] c) λs d=>D (.tuple [],d)) (D (.tuple [],H))
def am5(G:ai)(N:Nat)(a:aa)(b:aa)(H:af):aB Tryz.f279 G N (aO [a,b]) H=BX G a b H:=by
 refine aT (A:=aB Tryz.f279 G N) (aj _) ?_;delta BX;kernel_rfl
def He(G:ai)(N:Nat)(f:aa->af->O)(g:aa->aa->aa->aa->aa->af->O)(a c:aa)(d e b:aa)(H:af):O:=ad (al P .lss 3 U b e) λi=>ay (D i) (ad (aH P 35 d b) λj=>ad (ah P H 3 j) λk=>ad (aL a) λl=>ad (ak P 331 l 2) λm=>ad (ah P H 326 m) λn=>ad (aH P 326 n c) λo=>ad (ah P H 231 o) λp=>aw H (G 311 [a,k,p] H) λr h=>ad (al P .add 3 V b (I J 1)) λq=>g a c d e q h) (f a H)
def vi(G:ai)(N:Nat)(a:aa->af->O):Nat->aa->aa->aa->aa->aa->af->O
 |0,_,_,_,_,_,_=>Y
 |n+1,b,c,d,e,f,H=>He G N a (vi G N a n) b c d e f H
def am7(G:ai)(N:Nat)(a:aa->af->O)(c:aa->aa->aa->aa->aa->af->O):∀C H,aD P G N (aq (aq (ae (ae (ae (ae (ae (ae (aq (ae (aq (aq (aG Tryz.f280))))))))))))) (λC H=>c (C 0) (C 2) (C 69) (C 70) (C 71) H) [(4,(λC H=>a (C 0) H)),(1,(λC H=>a (C 0) H)),(0,(ax Tryz.f280))] (ax Tryz.f280) C H=He G N a c (C 0) (C 2) (C 69) (C 70) (C 71) H:=by
 refine aI (aj _) λC H=> ?_
 delta He;generalize a=b;revert b;refine id ?_;intro b;kernel_rfl
def vg(G:ai)(N:Nat)(d:aa->af->O)(a b:aa)(H:af):O:=ad (aL a) λe=>ad (ak P 331 e 3) λf=>ad (ah P H 30 f) λg=>ad (aH P 30 g b) λh=>ad (ah P H 35 h) λc=>a1 P .len [35] [c] H λi=>vi G N d N a b c i (I J 0) H
def am_(G:ai)(N:Nat)(a:aa->af->O):∀C H,aD P G N (ae (ae (ae (ae (ae (aq (ae (aq (aq (aG Tryz.f280)))))))))) (λC H=>a (C 0) H) [(1,(λC H=>a (C 0) H)),(0,(ax Tryz.f280))] (ax Tryz.f280) C H=vg G N a (C 0) (C 2) H:=by
 refine aI ((ar j ((aX j ((a_ (k:=λm C H=>vi G N a m (C 0) (C 2) (C 69) (C 70) (C 71) H) j (λC H=>j) (λm=>am7 G N a (vi G N a m)))))) (aj _))) λC H=> ?_
 delta vg;generalize vi G N a N=b;revert b;refine id ?_;intro b;kernel_rfl
def Hf(G:ai)(N:Nat)(f:aa->af->O)(g:aa->aa->aa->aa->aa->af->O)(a b:aa)(d e c:aa)(H:af):O:=ad (al P .lss 3 U c e) λi=>ay (D i) (ad (aH P 35 d c) λj=>ad (ah P H 3 j) λk=>aw H (G 316 [a,b,k] H) λm h=>ad (al P .add 3 V c (I J 1)) λl=>g a b d e l h) (vg G N f a b H)
def vj(G:ai)(N:Nat)(a:aa->af->O):Nat->aa->aa->aa->aa->aa->af->O
 |0,_,_,_,_,_,_=>Y
 |n+1,b,c,d,e,f,H=>Hf G N a (vj G N a n) b c d e f H
def am8(G:ai)(N:Nat)(a:aa->af->O)(c:aa->aa->aa->aa->aa->af->O):∀C H,aD P G N (aq (aq (ae (aq (ae (ae (ae (ae (aq (ae (aq (aq (aG Tryz.f280))))))))))))) (λC H=>c (C 0) (C 2) (C 52) (C 53) (C 54) H) [(2,(λC H=>vg G N a (C 0) (C 2) H)),(1,(λC H=>a (C 0) H)),(0,(ax Tryz.f280))] (ax Tryz.f280) C H=Hf G N a c (C 0) (C 2) (C 52) (C 53) (C 54) H:=by
 refine aI (aj _) λC H=> ?_
 delta Hf;generalize vg G N a=b;revert b;refine id ?_;intro b;kernel_rfl
def Hd(G:ai)(N:Nat)(k:aa->af->O)(b:aa)(H:af):O:=ad (aL b) λae=>ad (ak P 331 ae 7) λl=>ad (ah P H 329 l) λm=>aw H (G 314 [m] H) λn d=>ad (al P .gtr 3 V n (I J 0)) λo=>ay (D o) (ad (aL b) λp=>ad (ak P 331 p 7) λq=>ad (jF P 359 q) λr=>aw d (G 315 [r] d) λs e=>ad (p0 P 3 U s) λc=>ad (aL b) λt=>ad (ak P 331 t 8) λu=>ad (ah P e 95 u) λv=>ad (aH P 95 v c) λw=>aF e (aC P e 4 w (Z U)) λa=>ad (aL b) λx=>ad (ak P 331 x 2) λy=>ad (ah P a 326 y) λz=>ad (aH P 326 z c) λA=>ad (ah P a 231 A) λB=>ad (aL b) λC=>ad (ak P 331 C 5) λE=>ad (ah P a 326 E) λF=>ad (aH P 326 F c) λK=>ad (ah P a 231 K) λL=>ad (al P .andNot 231 U B L) λh=>ad (aL b) λM=>ad (ak P 331 M 5) λQ=>ad (ah P a 326 Q) λi=>ad (aH P 326 i c) λR=>ad (ah P a 231 R) λS=>ad (al P .or 231 U S h) λT=>ad (aH P 326 i c) λW=>aF a (aC P a 231 W T) λf=>aw f (G 281 [h] f) λj g=>a1 P .len [35] [j] g λab=>vj G N k N b c j ab (I J 0) g) (D (.tuple [],d))
def vh(G:ai)(N:Nat):Nat->aa->af->O
 |0,_,_=>Y
 |n+1,a,H=>Hd G N (vh G N n) a H
def am6(G:ai)(N:Nat)(a:aa->af->O):∀C H,aD P G N (aq (aq (aG Tryz.f280))) (λC H=>a (C 0) H) [(0,(ax Tryz.f280))] (ax Tryz.f280) C H=Hd G N a (C 0) H:=by
 refine aI ((ar j ((aX j ((ar j ((ar j ((ar j ((ar j ((ar j (am_ G N a) ((ar j ((aX j ((a_ (k:=λm C H=>vj G N a m (C 0) (C 2) (C 52) (C 53) (C 54) H) j (λC H=>j) (λm=>am8 G N a (vj G N a m)))))) (aj _))))) (aj _))) (aj _))) (aj _))) (aj _))))) (aj _))) λC H=> ?_
 delta Hd;generalize vj G N a N=b;revert b;refine id ?_;intro b;kernel_rfl
def BY(G:ai)(N:Nat)(a:aa)(H:af):O:=vh G N N a H
def am9(G:ai)(N:Nat)(b:aa)(H:af):aB Tryz.f280 G N (aO [b]) H=BY G N b H:=by
 refine aT (A:=aB Tryz.f280 G N) ((aX j ((a_ (k:=λm C H=>vh G N m (C 0) H) j (λC H=>j) (λm=>am6 G N (vh G N m)))))) ?_;delta BY;generalize vh G N N=a;revert a;refine id ?_;intro a;kernel_rfl
def ph(G:ai)(N:Nat)(a:aa)(H:af):O:=some (a,H)
def anc(G:ai)(N:Nat):∀C H,aD P G N (ae (ae (ae (aG Tryz.f281)))) (ax Tryz.f281) [] (ax Tryz.f281) C H=ph G N (C 3) H:=by
 refine aI (aj _) λC H=> ?_
 delta ph;kernel_rfl
def vk(G:ai)(N:Nat)(a:aa->aa->aa->af->O)(b d e:aa)(H:af):O:=ad (al P .add 3 V e (I J 1)) λf=>ad (al P .shr 231 V b (I .u64 1)) λc=>a c d f H
def ane(G:ai)(N:Nat)(a:aa->aa->aa->af->O):∀C H,aD P G N (ae (ae (aq (aq (ae (aq (ae (ae (aG Tryz.f281))))))))) (λC H=>a (C 0) (C 3) (C 4) H) [(0,(λC H=>ph G N (C 3) H))] (ax Tryz.f281) C H=vk G N a (C 0) (C 3) (C 4) H:=by
 refine aI (aj _) λC H=> ?_
 delta vk;kernel_rfl
def Hg(G:ai)(N:Nat)(d:aa->aa->aa->af->O)(a b c:aa)(H:af):O:=ad (al P .neq 231 V a (I .u64 0)) λk=>ay (D k) (ad (al P .and 231 V a (I .u64 1)) λg=>ad (al P .eql 231 V g (I .u64 1)) λh=>ay (D h) (aK H (bd P (H).next 35 1 [(0,c)]) λi e=>aw e (bx P e [35,35] b i) λj f=>vk G N d a j c f) (vk G N d a b c H)) (ph G N b H)
def vl(G:ai)(N:Nat):Nat->aa->aa->aa->af->O
 |0,_,_,_,_=>Y
 |n+1,a,b,c,H=>Hg G N (vl G N n) a b c H
def ana(G:ai)(N:Nat)(a:aa->aa->aa->af->O):∀C H,aD P G N (aq (aq (ae (aq (ae (ae (aG Tryz.f281))))))) (λC H=>a (C 0) (C 3) (C 4) H) [(0,(λC H=>ph G N (C 3) H))] (ax Tryz.f281) C H=Hg G N a (C 0) (C 3) (C 4) H:=by
 refine aI ((ar j ((ar j (ane G N a) (aj _))) (aj _))) λC H=> ?_
 delta Hg;generalize ph G N=b;generalize vk G N a=c;revert b c;refine id ?_;intro b c;kernel_rfl
def BZ(G:ai)(N:Nat)(a:aa)(H:af):O:=vl G N N a aa.ao (I J 0) H
def anb(G:ai)(N:Nat)(b:aa)(H:af):aB Tryz.f281 G N (aO [b]) H=BZ G N b H:=by
 refine aT (A:=aB Tryz.f281 G N) ((ar j ((ar j ((ar j (anc G N) ((ar j ((aX j ((a_ (k:=λm C H=>vl G N m (C 0) (C 3) (C 4) H) j (λC H=>j) (λm=>ana G N (vl G N m)))))) (aj _))))) (aj _))) (aj _))) ?_;delta BZ;generalize vl G N N=a;revert a;refine id ?_;intro a;kernel_rfl
def B0(G:ai)(a b j:aa)(H:af):O:=ad (aL a) λk=>ad (ak P 331 k 0) λl=>ad (ah P H 3 l) λc=>ad (aL a) λd=>ad (ak P 331 d 1) λe=>ad (ah P H 3 e) λf=>ad (al P .mul 3 U b f) λg=>ad (al P .add 3 U c g) λh=>ad (al P .add 3 U h j) λi=>D (i,H)
def anf(G:ai)(N:Nat)(a:aa)(b:aa)(c:aa)(H:af):aB Tryz.f282 G N (aO [a,b,c]) H=B0 G a b c H:=by
 refine aT (A:=aB Tryz.f282 G N) (aj _) ?_;delta B0;kernel_rfl
def Cs(G:ai)(b a d:aa)(H:af):O:=ad (aL b) λv=>ad (ak P 331 v 2) λw=>ad (ah P H 326 w) λx=>ad (aH P 326 x a) λg=>ad (ah P H 231 g) λh=>ad (al P .or 231 U h d) λi=>ad (aL b) λj=>ad (ak P 331 j 2) λk=>ad (ah P H 326 k) λl=>ad (aH P 326 l a) λm=>ad (ah P H 231 m) λn=>ad (al P .neq 231 U i n) λo=>ay (D o) (ad (aL b) λp=>ad (ak P 331 p 2) λq=>ad (ah P H 326 q) λe=>ad (aH P 326 e a) λr=>ad (ah P H 231 r) λs=>ad (al P .or 231 U s d) λt=>ad (aH P 326 e a) λu=>aF H (aC P H 231 u t) λc=>aw c (G 279 [b,a] c) λy f=>D (.tuple [],f)) (D (.tuple [],H))
def aon(G:ai)(N:Nat)(a:aa)(b:aa)(c:aa)(H:af):aB Tryz.f311 G N (aO [a,b,c]) H=Cs G a b c H:=by
 refine aT (A:=aB Tryz.f311 G N) (aj _) ?_;delta Cs;kernel_rfl
def Ct(G:ai)(b c e:aa)(H:af):O:=ad (aL b) λv=>ad (ak P 331 v 6) λw=>ad (ah P H 328 w) λx=>ad (bo P 371 [(0,c),(1,e)]) λy=>ad (iG P H 328 x y V) λq=>ad (bJ q 0) λz=>ad (bJ q 1) λi=>ba H [] λan p=>aF p (aC P p 369 an z) λs=>au i U s (aV c) λA t=>au i U t (aV e) λB u=>au i U u (aE (al P .eql 3 U A B)) λC f=>ad (aU i (D (Z V)) (D C)) λE=>ay (D E) (D (.tuple [],f)) (ad (aL b) λF=>ad (ak P 331 F 6) λK=>ad (ah P f 328 K) λL=>ad (bo P 371 [(0,c),(1,e)]) λM=>aF f (kf P f 328 L M (.agg [])) λa=>ad (aL b) λQ=>ad (ak P 331 Q 3) λl=>ad (ah P a 30 l) λm=>ad (aH P 30 m c) λn=>ad (ah P a 35 n) λo=>aK a (bd P (a).next 35 1 [(0,e)]) λR d=>aw d (bx P d [35,35] o R) λS g=>ad (aL b) λN=>ad (ak P 331 N 3) λj=>ad (ah P g 30 j) λk=>ad (aH P 30 k c) λT=>aF g (aC P g 35 T S) λh=>bif ((aJ (ah P a 30 l) m&&(aJ (ah P d 30 l) m&&V))&&((aJ (ah P a 35 n) o&&(aJ (ah P d 35 n) o&&V))&&((aJ (ah P a 30 j) k&&(aJ (ah P d 30 j) k&&(aJ (ah P g 30 j) k&&V)))&&V)))then(ad (aL b) λW=>ad (ak P 331 W 2) λab=>ad (ah P h 326 ab) λae=>ad (aH P 326 ae c) λaj=>ad (ah P h 231 aj) λam=>aw h (G 311 [b,e,am] h) λap r=>D (.tuple [],r))else Y)
def aoo(G:ai)(N:Nat)(a:aa)(b:aa)(c:aa)(H:af):aB Tryz.f312 G N (aO [a,b,c]) H=Ct G a b c H:=by
 refine aT (A:=aB Tryz.f312 G N) (aj _) ?_;delta Ct;kernel_rfl
def vR(G:ai)(N:Nat)(a:aa->aa->aa->aa->aa->af->O)(b f:aa)(c d e:aa)(H:af):O:=ad (al P .add 3 V e (I J 1)) λg=>a b f c d g H
def aou(G:ai)(N:Nat)(a:aa->aa->aa->aa->aa->af->O):∀C H,aD P G N (ae (ae (ae (aq (aq (ae (aG Tryz.f316))))))) (λC H=>a (C 0) (C 2) (C 14) (C 15) (C 16) H) [(0,(ax Tryz.f316))] (ax Tryz.f316) C H=vR G N a (C 0) (C 2) (C 14) (C 15) (C 16) H:=by
 refine aI (aj _) λC H=> ?_
 delta vR;kernel_rfl
def Hu(G:ai)(N:Nat)(n:aa->aa->aa->aa->aa->af->O)(c f:aa)(h i e:aa)(H:af):O:=ad (al P .lss 3 U e i) λp=>ay (D p) (ad (aH P 355 h e) λq=>ad (ah P H 357 q) λr=>ba H [I J 0,I J 0,I J 0] λd o=>aF o (aC P o 357 d r) λa=>ad (ak P 357 d 0) λs=>ad (ah P a 3 s) λt=>ad (al P .eql 3 V t (I J 3)) λu=>ay (D u) (ad (ak P 357 d 2) λv=>ad (ah P a 3 v) λw=>aw a (G 282 [c,f,w] a) λx b=>ad (ak P 357 d 1) λj=>ad (ah P b 3 j) λk=>aw b (G 312 [c,x,k] b) λB g=>bif ((aJ (ah P a 3 j) k&&(aJ (ah P b 3 j) k&&V))&&V)then(vR G N n c f h i e g)else Y) (ad (ak P 357 d 2) λy=>ad (ah P a 3 y) λz=>aw a (G 282 [c,f,z] a) λA b=>ad (ak P 357 d 1) λl=>ad (ah P b 3 l) λm=>aw b (G 312 [c,m,A] b) λC g=>bif ((aJ (ah P a 3 l) m&&(aJ (ah P b 3 l) m&&V))&&V)then(vR G N n c f h i e g)else Y)) (D (.tuple [],H))
def vS(G:ai)(N:Nat):Nat->aa->aa->aa->aa->aa->af->O
 |0,_,_,_,_,_,_=>Y
 |n+1,a,e,b,c,d,H=>Hu G N (vS G N n) a e b c d H
def aos(G:ai)(N:Nat)(a:aa->aa->aa->aa->aa->af->O):∀C H,aD P G N (aq (aq (ae (aG Tryz.f316)))) (λC H=>a (C 0) (C 2) (C 14) (C 15) (C 16) H) [(0,(ax Tryz.f316))] (ax Tryz.f316) C H=Hu G N a (C 0) (C 2) (C 14) (C 15) (C 16) H:=by
 refine aI ((ar j ((ar j ((ar j (aou G N a) (aj _))) (aj _))) (aj _))) λC H=> ?_
 delta Hu;generalize vR G N a=b;revert b;refine id ?_;intro b;kernel_rfl
def Cx(G:ai)(N:Nat)(a c h:aa)(H:af):O:=ad (aL a) λi=>ad (ak P 331 i 4) λd=>ad (ah P H 327 d) λe=>ad (aH P 327 e c) λf=>ad (ah P H 355 f) λb=>a1 P .len [355] [b] H λg=>vS G N N a h b g (I J 0) H
def aot(G:ai)(N:Nat)(b:aa)(c:aa)(d:aa)(H:af):aB Tryz.f316 G N (aO [b,c,d]) H=Cx G N b c d H:=by
 refine aT (A:=aB Tryz.f316 G N) ((ar j ((aX j ((a_ (k:=λm C H=>vS G N m (C 0) (C 2) (C 14) (C 15) (C 16) H) j (λC H=>j) (λm=>aos G N (vS G N m)))))) (aj _))) ?_;delta Cx;generalize vS G N N=a;revert a;refine id ?_;intro a;kernel_rfl
def Cu(G:ai)(a e:aa)(H:af):O:=mx G H a "Push" [e] λi c=>mx G c a "Len" [] λg b=>ad (al P .sub 3 V g (I J 1)) λf=>aw b (G 328 [a,f] b) λh d=>D (.tuple [],d)
def aop(G:ai)(N:Nat)(a:aa)(b:aa)(H:af):aB Tryz.f313 G N (aO [a,b]) H=Cu G a b H:=by
 refine aT (A:=aB Tryz.f313 G N) (aj _) ?_;delta Cu;kernel_rfl
def Cv(G:ai)(a:aa)(H:af):O:=a1 P .len [329] [a] H λb=>D (b,H)
def aoq(G:ai)(N:Nat)(a:aa)(H:af):aB Tryz.f314 G N (aO [a]) H=Cv G a H:=by
 refine aT (A:=aB Tryz.f314 G N) (aj _) ?_;delta Cv;kernel_rfl
def Cw(G:ai)(a:aa)(H:af):O:=mx G H a "Len" [] λh d=>ad (al P .sub 3 V h (I J 1)) λc=>mx G d a "Swap" [I J 0,c] λj b=>aw b (G 329 [a,I J 0,c] b) λi e=>mx G e a "Pop" [] λg f=>D (g,f)
def aor(G:ai)(N:Nat)(a:aa)(H:af):aB Tryz.f315 G N (aO [a]) H=Cw G a H:=by
 refine aT (A:=aB Tryz.f315 G N) (aj _) ?_;delta Cw;kernel_rfl
def Hz(G:ai)(N:Nat)(g:aa->aa->af->O)(e c:aa)(H:af):O:=ad (al P .sub 3 V c (I J 1)) λt=>ad (al P .quo 3 V t (I J 2)) λd=>ad (al P .eql 3 U d c) λa=>au a U H (aV e) λl h=>au a U h (aV c) λm i=>au a U i (aV d) λn b=>au a U b (λq=>(qN P b l "Less" [m,n]).bind λp=>bq b (G p.1 p.2 b) q) λo j=>au a U j (aE (bu .not o)) λr f=>ad (aU a (D (Z V)) (D r)) λs=>ay (D s) (D (.tuple [],f)) (mx G f e "Swap" [d,c] λu k=>g e d k)
def v8(G:ai)(N:Nat):Nat->aa->aa->af->O
 |0,_,_,_=>Y
 |n+1,a,b,H=>Hz G N (v8 G N n) a b H
def aoO(G:ai)(N:Nat)(a:aa->aa->af->O):∀C H,aD P G N (aq (aq (aG Tryz.f328))) (λC H=>a (C 0) (C 1) H) [(0,(ax Tryz.f328))] (ax Tryz.f328) C H=Hz G N a (C 0) (C 1) H:=by
 refine aI (aj _) λC H=> ?_
 delta Hz;kernel_rfl
def CK(G:ai)(N:Nat)(a b:aa)(H:af):O:=v8 G N N a b H
def aoP(G:ai)(N:Nat)(b:aa)(c:aa)(H:af):aB Tryz.f328 G N (aO [b,c]) H=CK G N b c H:=by
 refine aT (A:=aB Tryz.f328 G N) ((aX j ((a_ (k:=λm C H=>v8 G N m (C 0) (C 1) H) j (λC H=>j) (λm=>aoO G N (v8 G N m)))))) ?_;delta CK;generalize v8 G N N=a;revert a;refine id ?_;intro a;kernel_rfl
def mb(G:ai)(N:Nat)(a c:aa)(H:af):O:=ad (al P .gtr 3 U c a) λb=>D (b,H)
def aoS(G:ai)(N:Nat):∀C H,aD P G N (ae (ae (ae (aG Tryz.f329)))) (ax Tryz.f329) [] (ax Tryz.f329) C H=mb G N (C 1) (C 7) H:=by
 refine aI (aj _) λC H=> ?_
 delta mb;kernel_rfl
def v_(G:ai)(N:Nat)(f:aa->aa->aa->aa->af->O)(a e:aa)(h b c:aa)(H:af):O:=mx G H a "Less" [c,b] λi d=>ad (bu .not i) λj=>ay (D j) (mb G N e b d) (mx G d a "Swap" [b,c] λk g=>f a e h c g)
def aoT(G:ai)(N:Nat)(a:aa->aa->aa->aa->af->O):∀C H,aD P G N (ae (ae (ae (ae (aq (aq (aq (aq (ae (ae (aG Tryz.f329))))))))))) (λC H=>a (C 0) (C 1) (C 2) (C 7) H) [(1,(λC H=>a (C 0) (C 1) (C 2) (C 7) H)),(0,(λC H=>mb G N (C 1) (C 7) H))] (ax Tryz.f329) C H=v_ G N a (C 0) (C 1) (C 2) (C 7) (C 9) H:=by
 refine aI (aj _) λC H=> ?_
 delta v_;generalize mb G N=b;revert b;refine id ?_;intro b;kernel_rfl
def HA(G:ai)(N:Nat)(j:aa->aa->aa->aa->af->O)(f g:aa)(d e:aa)(H:af):O:=ad (al P .mul 3 V (I J 2) e) λr=>ad (al P .add 3 V r (I J 1)) λa=>ad (al P .geq 3 U a d) λh=>au h U H (aV a) λs m=>au h U m (aE (al P .lss 3 V s (I J 0))) λt k=>ad (aU h (D (Z V)) (D t)) λu=>ay (D u) (mb G N g e k) (ad (al P .add 3 V a (I J 1)) λi=>ad (al P .lss 3 U i d) λb=>au b V k (aV f) λv n=>au b V n (aV i) λw o=>au b V o (aV a) λx c=>au b V c (λq=>(qN P c v "Less" [w,x]).bind λp=>bq c (G p.1 p.2 c) q) λy l=>ad (aU b (D y) (D (Z U))) λz=>ay (D z) (v_ G N j f g d e i l) (v_ G N j f g d e a l))
def wa(G:ai)(N:Nat):Nat->aa->aa->aa->aa->af->O
 |0,_,_,_,_,_=>Y
 |n+1,a,b,c,d,H=>HA G N (wa G N n) a b c d H
def aoQ(G:ai)(N:Nat)(a:aa->aa->aa->aa->af->O):∀C H,aD P G N (aq (aq (aq (ae (ae (aG Tryz.f329)))))) (λC H=>a (C 0) (C 1) (C 2) (C 7) H) [(0,(λC H=>mb G N (C 1) (C 7) H))] (ax Tryz.f329) C H=HA G N a (C 0) (C 1) (C 2) (C 7) H:=by
 refine aI ((aX j ((ar j ((ar j ((ar j ((ar j (aoT G N a) (aj _))) (aj _))) (aj _))) (aj _))))) λC H=> ?_
 delta HA;generalize v_ G N a=b;generalize mb G N=c;revert b c;refine id ?_;intro b c;kernel_rfl
def CL(G:ai)(N:Nat)(b a c:aa)(H:af):O:=wa G N N b a c a H
def aoR(G:ai)(N:Nat)(b:aa)(c:aa)(d:aa)(H:af):aB Tryz.f329 G N (aO [b,c,d]) H=CL G N b c d H:=by
 refine aT (A:=aB Tryz.f329 G N) ((ar j ((ar j ((ar j (aoS G N) ((aX j ((a_ (k:=λm C H=>wa G N m (C 0) (C 1) (C 2) (C 7) H) j (λC H=>j) (λm=>aoQ G N (wa G N m)))))))) (aj _))) (aj _))) ?_;delta CL;generalize wa G N N=a;revert a;refine id ?_;intro a;kernel_rfl
def CO(G:ai)(a b g:aa)(H:af):O:=ad (aH P 329 a b) λh=>ad (ah P H 3 h) λc=>ad (aH P 329 a g) λd=>ad (ah P H 3 d) λe=>ad (al P .lss 3 U c e) λf=>D (f,H)
def ao8(G:ai)(N:Nat)(a:aa)(b:aa)(c:aa)(H:af):aB Tryz.f348 G N (aO [a,b,c]) H=CO G a b c H:=by
 refine aT (A:=aB Tryz.f348 G N) (aj _) ?_;delta CO;kernel_rfl
def CP(G:ai)(a c d:aa)(H:af):O:=ad (aH P 329 a d) λf=>ad (ah P H 3 f) λg=>ad (aH P 329 a c) λh=>ad (ah P H 3 h) λi=>ad (aH P 329 a c) λj=>aF H (aC P H 3 j g) λb=>ad (aH P 329 a d) λk=>aF b (aC P b 3 k i) λe=>D (.tuple [],e)
def ao9(G:ai)(N:Nat)(a:aa)(b:aa)(c:aa)(H:af):aB Tryz.f349 G N (aO [a,b,c]) H=CP G a b c H:=by
 refine aT (A:=aB Tryz.f349 G N) (aj _) ?_;delta CP;kernel_rfl
def CQ(G:ai)(b:aa)(H:af):O:=ad (aL b) λm=>ad (ah P H 329 m) λa=>a1 P .len [329] [a] H λd=>ad (al P .sub 3 V d (I J 1)) λe=>ad (aH P 329 a e) λf=>ad (ah P H 3 f) λg=>a1 P .len [329] [a] H λh=>ad (al P .sub 3 V h (I J 1)) λi=>ad (fK P 329 a Y (D i) Y) λj=>ad (aL b) λk=>aF H (aC P H 329 k j) λc=>ad (jF P 3 g) λl=>D (l,c)
def ao_(G:ai)(N:Nat)(a:aa)(H:af):aB Tryz.f350 G N (aO [a]) H=CQ G a H:=by
 refine aT (A:=aB Tryz.f350 G N) (aj _) ?_;delta CQ;kernel_rfl
def CR(G:ai)(e g:aa)(H:af):O:=ad (aL e) λb=>ad (ah P H 329 b) λc=>ad (p0 P 3 U g) λk=>aK H (bd P (H).next 329 1 [(0,k)]) λh a=>aw a (bx P a [329,329] c h) λi d=>ad (aL e) λj=>aF d (aC P d 329 j i) λf=>bif ((aJ (ah P H 329 b) c&&(aJ (ah P a 329 b) c&&V))&&V)then(D (.tuple [],f))else Y
def apa(G:ai)(N:Nat)(a:aa)(b:aa)(H:af):aB Tryz.f351 G N (aO [a,b]) H=CR G a b H:=by
 refine aT (A:=aB Tryz.f351 G N) (aj _) ?_;delta CR;kernel_rfl
