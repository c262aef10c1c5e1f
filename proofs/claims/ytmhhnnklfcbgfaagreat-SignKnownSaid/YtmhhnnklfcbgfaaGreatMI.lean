/-
  Texts of one proof, laid together: ShD ShE.
-/
import Derived.Test.YtmhhnnklfcbgfaaGreatME
set_option linter.unusedVariables false
set_option linter.unusedSimpArgs false
set_option linter.defProp false
open Option renaming some→D,none→Y
open Bool renaming true→V,false→U
open Go.bN.aa renaming int→I,bool→Z
open Go.IntKind renaming i64→J
namespace Go.Proofs.YtmhhnnklfcbgfaaGreat
open Go.bN
section
set_option maxRecDepth 100000
noncomputable section
def f_(G:ai)(N:Nat)(a:aa)(H:ae):O:=ad (aL a) λb=>ad (ak P 196 b 5) λc=>ad (ah P H 53 c) λd=>D (d,H)
def S0(G:ai)(N:Nat):∀C H,aE P G N (af (af (af (af (aG Tryz.f77))))) (ay Tryz.f77) [] (ay Tryz.f77) C H=f_ G N (C 3) H:=by
 refine aH (aj _) λC H=> ?_
 delta f_;kernel_rfl
def hc(G:ai)(N:Nat)(a:aa->aa->aa->aa->ae->O)(e b:aa)(c d:aa)(H:ae):O:=ad (al P .add 3 V d (I J 1)) λf=>a e b c f H
def S1(G:ai)(N:Nat)(a:aa->aa->aa->aa->ae->O):∀C H,aE P G N (af (af (af (an (an (af (an (af (af (af (aG Tryz.f77))))))))))) (λC H=>a (C 3) (C 20) (C 21) (C 22) H) [(0,(λC H=>f_ G N (C 3) H))] (ay Tryz.f77) C H=hc G N a (C 3) (C 20) (C 21) (C 22) H:=by
 refine aH (aj _) λC H=> ?_
 delta hc;kernel_rfl
def vo(G:ai)(N:Nat)(k:aa->aa->aa->aa->ae->O)(l:aa->aa->aa->aa->aa->aa->aa->ae->O)(b e:aa)(f g:aa)(h i c:aa)(H:ae):O:=ad (al P .lss 3 U c i) λn=>ax (D n) (ad (aF P 47 h c) λo=>ad (ah P H 89 o) λp=>a7 H [I J 0,I J 0,I J 0,I J 0,I J 0,aa.ar] λj d=>aB d (aA P d 89 j p) λa=>ad (ah P a 89 j) λq=>au a (G 129 [b,q] a) λs m=>ad (al P .add 3 V c (I J 1)) λr=>l b e f g h i r m) (hc G N k b e f g H)
def mT(G:ai)(N:Nat)(a:aa->aa->aa->aa->ae->O):Nat->aa->aa->aa->aa->aa->aa->aa->ae->O
 |0,_,_,_,_,_,_,_,_=>Y
 |n+1,e,b,c,d,f,g,h,H=>vo G N a (mT G N a n) e b c d f g h H
def SY(G:ai)(N:Nat)(a:aa->aa->aa->aa->ae->O)(c:aa->aa->aa->aa->aa->aa->aa->ae->O):∀C H,aE P G N (an (an (af (af (af (an (an (af (af (an (an (af (an (af (af (af (aG Tryz.f77))))))))))))))))) (λC H=>c (C 3) (C 20) (C 21) (C 22) (C 36) (C 37) (C 38) H) [(2,(λC H=>hc G N a (C 3) (C 20) (C 21) (C 22) H)),(1,(λC H=>hc G N a (C 3) (C 20) (C 21) (C 22) H)),(0,(λC H=>f_ G N (C 3) H))] (ay Tryz.f77) C H=vo G N a c (C 3) (C 20) (C 21) (C 22) (C 36) (C 37) (C 38) H:=by
 refine aH (aj _) λC H=> ?_
 delta vo;generalize hc G N a=b;revert b;refine id ?_;intro b;kernel_rfl
def vn(G:ai)(N:Nat)(l:aa->aa->aa->aa->ae->O)(d i:aa)(j c:aa)(H:ae):O:=ad (al P .lss 3 U c j) λm=>ax (D m) (ad (aF P 24 i c) λn=>ad (ah P H 49 n) λo=>a7 H [I J 0,aa.ar,Z U,I J 0,I J 0,I J 0,aa.ar] λa h=>aB h (aA P h 49 a o) λe=>ad (aL d) λp=>ad (ak P 196 p 2) λq=>aB e (aA P e 3 q c) λb=>ad (ah P b 49 a) λg=>ad (aL d) λr=>ad (ak P 196 r 0) λs=>aB b (aA P b 49 s g) λf=>bif ((aJ (ah P e 49 a) g&&(aJ (ah P b 49 a) g&&V))&&V)then(ad (ak P 49 a 4) λt=>ad (ah P f 47 t) λk=>aZ P .len [47] [k] f λu=>mT G N l N d i j c k u (I J 0) f)else Y) (f_ G N d H)
def mS(G:ai)(N:Nat):Nat->aa->aa->aa->aa->ae->O
 |0,_,_,_,_,_=>Y
 |n+1,d,a,b,c,H=>vn G N (mS G N n) d a b c H
def SX(G:ai)(N:Nat)(a:aa->aa->aa->aa->ae->O):∀C H,aE P G N (an (an (af (an (af (af (af (aG Tryz.f77)))))))) (λC H=>a (C 3) (C 20) (C 21) (C 22) H) [(0,(λC H=>f_ G N (C 3) H))] (ay Tryz.f77) C H=vn G N a (C 3) (C 20) (C 21) (C 22) H:=by
 refine aH ((aq j ((aq j ((aq j (S1 G N a) ((aT j ((aq j ((aq j ((aq j ((aT j ((a8 (k:=λm C H=>mT G N a m (C 3) (C 20) (C 21) (C 22) (C 36) (C 37) (C 38) H) j (λC H=>j) (λm=>SY G N a (mT G N a m)))))) (aj _))) (aj _))) (aj _))))))) (aj _))) (aj _))) λC H=> ?_
 delta vn;generalize f_ G N=b;generalize mT G N a N=c;revert b c;refine id ?_;intro b c;kernel_rfl
def q9(G:ai)(N:Nat)(k:aa)(H:ae):O:=aO H (bo (H).next k) λa g=>ad (ah P g 27 a) λt=>au g (G 35 [t] g) λu b=>ad (bt .not u) λl=>ax (D l) (D (aa.ar,b)) (ad (ah P b 27 a) λm=>au b (G 127 [m] b) λn c=>ad (ah P c 27 a) λi=>au c (G 128 [i] c) λo d=>ad (ak P 27 a 2) λe=>ad (ah P d 24 e) λf=>ad (bh P 196 [(1,n),(3,o),(4,f)]) λp=>aO d (bo (d).next p) λq h=>bif ((aJ (ah P b 27 a) i&&(aJ (ah P c 27 a) i&&V))&&((aJ (ah P b 24 e) f&&(aJ (ah P c 24 e) f&&(aJ (ah P d 24 e) f&&V)))&&V))then(ad (ak P 27 a 2) λr=>ad (ah P h 24 r) λj=>aZ P .len [24] [j] h λs=>mS G N N q j s (I J 0) h)else Y)
def SZ(G:ai)(N:Nat)(b:aa)(H:ae):aD Tryz.f77 G N (aP [b]) H=q9 G N b H:=by
 refine aS (A:=aD Tryz.f77 G N) ((aq j ((aq j ((aq j ((aq j (S0 G N) ((aq j ((aT j ((a8 (k:=λm C H=>mS G N m (C 3) (C 20) (C 21) (C 22) H) j (λC H=>j) (λm=>SX G N (mS G N m)))))) (aj _))))) (aj _))) (aj _))) (aj _))) ?_;delta q9;generalize mS G N N=a;revert a;refine id ?_;intro a;kernel_rfl
def rf(G:ai)(x e:aa)(H:ae):O:=aO H (bo (H).next x) λc g=>ad (ah P g 27 c) λF=>au g (G 35 [F] g) λK s=>ad (bt .not K) λk=>ao k U s (aM e) λL t=>ao k U t (az (al P .lss 3 V L (I J 0))) λy u=>ad (aN k (D (Z V)) (D y)) λa=>ao a U u (aM e) λz v=>ao a U v (az (ak P 27 c 1)) λA l=>ao a U l (qr (ah P l 23 A)) λn m=>ao a U m (λq=>bH (aW P .empty .len [23] [n]) (aW P m .len [23] [n]) q) λB w=>ao a U w (az (al P .geq 3 U z B)) λC b=>ad (aN a (D (Z V)) (D C)) λE=>ax (D E) (D ((I J (-1)),b)) (ad (ah P b 27 c) λo=>au b (G 128 [o] b) λp d=>ad (ak P 27 c 2) λi=>ad (ah P d 24 i) λf=>bH (aW P .empty .len [24] [f]) (aW P d .len [24] [f]) λh=>ad (al P .add 3 U p h.val) λr=>ad (al P .add 3 U r e) λj=>bif b3 [0,1,0,4,12,31,0,127,255] [0,1,5,7,8] [⟨0,.read o,λH=>ah P H 27 c⟩,⟨1,.br p d,λH=>Y⟩,⟨2,.pure i,λH=>Y⟩,⟨3,.read f,λH=>ah P H 24 i⟩,⟨4,h,λH=>aW P H .len [24] [f]⟩,⟨5,.pure r,λH=>Y⟩,⟨6,.pure e,λH=>Y⟩,⟨7,.pure j,λH=>Y⟩,⟨8,.pure j,λH=>Y⟩] b then(D (j,(h.heap d)))else Y)
def Te(G:ai)(N:Nat)(a:aa)(b:aa)(H:ae):aD Tryz.f84 G N (aP [a,b]) H=rf G a b H:=by
 refine aS (A:=aD Tryz.f84 G N) (aj _) ?_;delta rf;kernel_rfl
def rh(G:ai)(p d:aa)(H:ae):O:=aO H (bo (H).next p) λe c=>ad (ah P c 27 e) λA=>au c (G 35 [A] c) λB k=>ad (bt .not B) λf=>ao f U k (aM d) λC l=>ao f U l (az (al P .lss 3 V C (I J 0))) λr m=>ad (aN f (D (Z V)) (D r)) λa=>ao a U m (aM d) λs n=>ao a U n (az (ak P 27 e 2)) λt g=>ao a U g (qr (ah P g 24 t)) λi h=>ao a U h (λq=>bH (aW P .empty .len [24] [i]) (aW P h .len [24] [i]) q) λu o=>ao a U o (az (al P .geq 3 U s u)) λv b=>ad (aN a (D (Z V)) (D v)) λw=>ax (D w) (D ((I J (-1)),b)) (ad (ah P b 27 e) λx=>au b (G 128 [x] b) λy j=>ad (al P .add 3 U y d) λz=>D (z,j))
def Tf(G:ai)(N:Nat)(a:aa)(b:aa)(H:ae):aD Tryz.f85 G N (aP [a,b]) H=rh G a b H:=by
 refine aS (A:=aD Tryz.f85 G N) (aj _) ?_;delta rh;kernel_rfl
def rm(G:ai)(K d g:aa)(H:ae):O:=aO H (bo (H).next K) λe f=>ad (ah P f 27 e) λaE=>au f (G 35 [aE] f) λaG z=>ad (bt .not aG) λi=>ao i U z (aM d) λL A=>ao i U A (az (al P .lss 3 V L (I J 0))) λM B=>ad (aN i (D (Z V)) (D M)) λb=>ao b U B (aM d) λN C=>ao b U C (az (ak P 27 e 2)) λQ n=>ao b U n (qr (ah P n 24 Q)) λp o=>ao b U o (λq=>bH (aW P .empty .len [24] [p]) (aW P o .len [24] [p]) q) λR E=>ao b U E (az (al P .geq 3 U N R)) λS F=>ad (aN b (D (Z V)) (D S)) λh=>ao h U F (aM g) λT s=>ao h U s (az (al P .lss 3 V T (I J 0))) λW t=>ad (aN h (D (Z V)) (D W)) λa=>ao a U t (aM g) λab u=>ao a U u (az (ak P 27 e 2)) λaf j=>ao a U j (qr (ah P j 24 af)) λaj v=>ao a U v (aM d) λam w=>ao a U w (az (aF P 24 aj am)) λan x=>ao a U x (az (ak P 49 an 1)) λap k=>ao a U k (qr (ah P k 23 ap)) λr l=>ao a U l (λq=>bH (aW P .empty .len [23] [r]) (aW P l .len [23] [r]) q) λaq y=>ao a U y (az (al P .geq 3 U ab aq)) λav c=>ad (aN a (D (Z V)) (D av)) λaw=>ax (D aw) (D ((I J (-1)),c)) (ad (ah P c 27 e) λay=>au c (G 127 [ay] c) λaA m=>ad (aF P 30 aA d) λaB=>ad (ah P m 3 aB) λaC=>ad (al P .add 3 U aC g) λaD=>D (aD,m))
def Tn(G:ai)(N:Nat)(a:aa)(b:aa)(c:aa)(H:ae):aD Tryz.f98 G N (aP [a,b,c]) H=rm G a b c H:=by
 refine aS (A:=aD Tryz.f98 G N) (aj _) ?_;delta rm;kernel_rfl
def iH(G:ai)(N:Nat)(a:aa)(H:ae):O:=some (a,H)
def Lb(G:ai)(N:Nat):∀C H,aE P G N (af (af (af (aG Tryz.f127)))) (ay Tryz.f127) [] (ay Tryz.f127) C H=iH G N (C 3) H:=by
 refine aH (aj _) λC H=> ?_
 delta iH;kernel_rfl
def tg(G:ai)(N:Nat)(u:aa->aa->aa->aa->ae->O)(a s:aa)(t g:aa)(H:ae):O:=ad (al P .lss 3 U g t) λv=>ax (D v) (ad (aF P 24 s g) λw=>ad (ah P H 49 w) λx=>a7 H [I J 0,aa.ar,Z U,I J 0,I J 0,I J 0,aa.ar] λr k=>aB k (aA P k 49 r x) λc=>bH (aW P .empty .len [30] [a]) (aW P c .len [30] [a]) λd=>ad (al P .sub 3 V d.val (I J 1)) λn=>ad (aF P 30 a n) λh=>ad (ah P (d.heap c) 3 h) λo=>ad (ak P 49 r 1) λi=>ad (ah P (d.heap c) 23 i) λf=>bH (aW P .empty .len [23] [f]) (aW P (d.heap c) .len [23] [f]) λe=>ad (al P .add 3 U o e.val) λp=>hk (e.heap (d.heap c)) (bl P ((e.heap (d.heap c))).next 30 1 [(0,p)]) λq b l=>au l (bJ P l [30,30] a q) λj m=>bif b3 [0,0,0,4,12,30,62,0,128,384,1022,2046,4095,8191] [1,2,3,4,5,6,7,8,9,10,11,12,13] [⟨0,.pure a,λH=>Y⟩,⟨1,.pure a,λH=>Y⟩,⟨2,.pure a,λH=>Y⟩,⟨3,d,λH=>aW P H .len [30] [a]⟩,⟨4,.pure n,λH=>Y⟩,⟨5,.pure h,λH=>Y⟩,⟨6,.read o,λH=>ah P H 3 h⟩,⟨7,.pure i,λH=>Y⟩,⟨8,.read f,λH=>ah P H 23 i⟩,⟨9,e,λH=>aW P H .len [23] [f]⟩,⟨10,.pure p,λH=>Y⟩,⟨11,.new q b,λH=>Y⟩,⟨12,.br j m,λH=>Y⟩,⟨13,.pure j,λH=>Y⟩] c then(ad (al P .add 3 V g (I J 1)) λy=>u j s t y m)else Y) (iH G N a H)
def iI(G:ai)(N:Nat):Nat->aa->aa->aa->aa->ae->O
 |0,_,_,_,_,_=>Y
 |n+1,b,c,d,a,H=>tg G N (iI G N n) b c d a H
def K_(G:ai)(N:Nat)(b:aa->aa->aa->aa->ae->O):∀C H,aE P G N (an (an (af (an (af (af (aG Tryz.f127))))))) (λC H=>b (C 3) (C 8) (C 9) (C 10) H) [(0,(λC H=>iH G N (C 3) H))] (ay Tryz.f127) C H=tg G N b (C 3) (C 8) (C 9) (C 10) H:=by
 refine aH (aj _) λC H=> ?_
 delta tg;generalize iH G N=a;revert a;refine id ?_;intro a;kernel_rfl
def og(G:ai)(N:Nat)(d:aa)(H:ae):O:=aO H (bo (H).next d) λe b=>aO b (D (.ag (b).next 0 1 1 (D 1),.row U 1 [[I J 0]])) λf a=>ad (ak P 27 e 2) λg=>ad (ah P a 24 g) λc=>aZ P .len [24] [c] a λh=>iI G N N f c h (I J 0) a
def La(G:ai)(N:Nat)(b:aa)(H:ae):aD Tryz.f127 G N (aP [b]) H=og G N b H:=by
 refine aS (A:=aD Tryz.f127 G N) ((aq j ((aq j ((aq j (Lb G N) ((aq j ((aT j ((a8 (k:=λm C H=>iI G N m (C 3) (C 8) (C 9) (C 10) H) j (λC H=>j) (λm=>K_ G N (iI G N m)))))) (aj _))))) (aj _))) (aj _))) ?_;delta og;generalize iI G N N=a;revert a;refine id ?_;intro a;kernel_rfl
def oh(G:ai)(k:aa)(H:ae):O:=aO H (bo (H).next k) λe b=>ad (ah P b 27 e) λi=>au b (G 127 [i] b) λj a=>ad (ak P 27 e 2) λf=>ad (ah P a 24 f) λd=>bH (aW P .empty .len [24] [d]) (aW P a .len [24] [d]) λc=>ad (aF P 30 j c.val) λg=>ad (ah P (c.heap a) 3 g) λh=>bif b3 [0,1,0,4,12,31,63,127] [0,1,5,6,7] [⟨0,.read i,λH=>ah P H 27 e⟩,⟨1,.br j a,λH=>Y⟩,⟨2,.pure f,λH=>Y⟩,⟨3,.read d,λH=>ah P H 24 f⟩,⟨4,c,λH=>aW P H .len [24] [d]⟩,⟨5,.pure g,λH=>Y⟩,⟨6,.read h,λH=>ah P H 3 g⟩,⟨7,.pure h,λH=>Y⟩] b then(D (h,(c.heap a)))else Y
def Lc(G:ai)(N:Nat)(a:aa)(H:ae):aD Tryz.f128 G N (aP [a]) H=oh G a H:=by
 refine aS (A:=aD Tryz.f128 G N) (aj _) ?_;delta oh;kernel_rfl
def om(G:ai)(o:aa)(H:ae):O:=aO H (bo (H).next o) λd g=>ad (ah P g 27 d) λp=>au g (G 35 [p] g) λq b=>ad (bt .not q) λr=>ax (D r) (D ((I J 0),b)) (ad (ah P b 27 d) λm=>au b (G 128 [m] b) λn a=>ad (ak P 27 d 2) λk=>ad (ah P a 24 k) λf=>bH (aW P .empty .len [24] [f]) (aW P a .len [24] [f]) λc=>ad (al P .add 3 U n c.val) λl=>ad (ak P 27 d 1) λi=>ad (ah P (c.heap a) 23 i) λe=>bH (aW P .empty .len [23] [e]) (aW P (c.heap a) .len [23] [e]) λh=>ad (al P .add 3 U l h.val) λj=>bif b3 [0,1,0,4,12,31,0,64,192,511,1023] [0,1,5,9,10] [⟨0,.read m,λH=>ah P H 27 d⟩,⟨1,.br n a,λH=>Y⟩,⟨2,.pure k,λH=>Y⟩,⟨3,.read f,λH=>ah P H 24 k⟩,⟨4,c,λH=>aW P H .len [24] [f]⟩,⟨5,.pure l,λH=>Y⟩,⟨6,.pure i,λH=>Y⟩,⟨7,.read e,λH=>ah P H 23 i⟩,⟨8,h,λH=>aW P H .len [23] [e]⟩,⟨9,.pure j,λH=>Y⟩,⟨10,.pure j,λH=>Y⟩] b then(D (j,(h.heap (c.heap a))))else Y)
def Lq(G:ai)(N:Nat)(a:aa)(H:ae):aD Tryz.f131 G N (aP [a]) H=om G a H:=by
 refine aS (A:=aD Tryz.f131 G N) (aj _) ?_;delta om;kernel_rfl
def iJ(G:ai)(b d:aa)(g ap:aa)(H:ae):O:=ax (D ap) (ad (ak P 89 d 1) λp=>ad (ah P H 3 p) λq=>au H (G 170 [b,q] H) λr a=>ad (ak P 89 d 4) λh=>ad (ah P a 3 h) λi=>au a (G 169 [b,I J 1,r,i,I J 0] a) λaq c=>bif ((aJ (ah P H 3 h) i&&(aJ (ah P a 3 h) i&&V))&&V)then(D (.tuple [],c))else Y) (ad (al P .eql 3 V g (I J 13)) λs=>ax (D s) (ad (ah P H 89 d) λt=>au H (G 171 [b,t] H) λav a=>D (.tuple [],a)) (ad (al P .eql 3 V g (I J 18)) λu=>ax (D u) (ad (ak P 89 d 1) λv=>ad (ah P H 3 v) λw=>au H (G 172 [b,w] H) λx a=>ax (D x) (ad (aL b) λy=>ad (ak P 196 y 2) λz=>ad (ah P a 3 z) λA=>au a (G 173 [b,A] a) λB c=>ad (ak P 89 d 1) λj=>ad (ah P c 3 j) λk=>au c (G 170 [b,k] c) λC e=>au e (G 169 [b,I J 2,B,C,I J 0] e) λaw f=>bif ((aJ (ah P a 3 j) k&&(aJ (ah P c 3 j) k&&V))&&V)then(D (.tuple [],f))else Y) (D (.tuple [],a))) (ad (al P .eql 3 V g (I J 19)) λE=>ax (D E) (ad (ak P 89 d 1) λF=>ad (ah P H 3 F) λK=>au H (G 172 [b,K] H) λL a=>ax (D L) (ad (ak P 89 d 1) λM=>ad (ah P a 3 M) λN=>au a (G 170 [b,N] a) λQ c=>ad (ak P 89 d 4) λl=>ad (ah P c 3 l) λm=>au c (G 174 [b,m] c) λR e=>au e (G 169 [b,I J 2,Q,R,I J 0] e) λay f=>bif ((aJ (ah P a 3 l) m&&(aJ (ah P c 3 l) m&&V))&&V)then(D (.tuple [],f))else Y) (D (.tuple [],a))) (ad (al P .eql 3 V g (I J 20)) λS=>ax (D S) (ad (ak P 89 d 1) λT=>ad (ah P H 3 T) λW=>au H (G 172 [b,W] H) λab a=>ax (D ab) (ad (ak P 89 d 4) λaf=>ad (ah P a 3 af) λaj=>au a (G 174 [b,aj] a) λam c=>ad (ak P 89 d 1) λn=>ad (ah P c 3 n) λo=>au c (G 170 [b,o] c) λao e=>au e (G 169 [b,I J 2,am,ao,I J 0] e) λaz f=>bif ((aJ (ah P a 3 n) o&&(aJ (ah P c 3 n) o&&V))&&V)then(D (.tuple [],f))else Y) (D (.tuple [],a))) (ad (ah P H 89 d) λan=>au H (G 175 [b,an] H) λaA a=>D (.tuple [],a))))))
def Le(G:ai)(N:Nat):∀C H,aE P G N (af (an (af (af (aG Tryz.f129))))) (ay Tryz.f129) [(0,(ay Tryz.f129))] (ay Tryz.f129) C H=iJ G (C 0) (C 3) (C 5) (C 9) H:=by
 refine aH (aj _) λC H=> ?_
 delta iJ;kernel_rfl
def oi(G:ai)(d f:aa)(H:ae):O:=aO H (bo (H).next f) λc b=>ad (ak P 89 c 0) λh=>ad (ah P b 3 h) λa=>ad (al P .eql 3 V a (I J 11)) λe=>ax (D e) (iJ G d c a e b) (ad (al P .eql 3 V a (I J 12)) λg=>iJ G d c a g b)
def Ld(G:ai)(N:Nat)(b:aa)(c:aa)(H:ae):aD Tryz.f129 G N (aP [b,c]) H=oi G b c H:=by
 refine aS (A:=aD Tryz.f129 G N) ((aq j ((aq j ((aT j ((aq j (Le G N) (aj _))))) (aj _))) (aj _))) ?_;delta oi;generalize iJ G=a;revert a;refine id ?_;intro a;kernel_rfl
def oU(G:ai)(c e:aa)(j o p:aa)(H:ae):O:=ad (aL c) λf=>ad (ak P 196 f 5) λg=>ad (ah P H 53 g) λh=>ad (bh P 56 [(0,e),(1,j),(2,o),(3,p)]) λi=>aO H (bl P (H).next 53 1 [(0,i)]) λk a=>au a (bJ P a [53,53] h k) λl b=>ad (aL c) λm=>ad (ak P 196 m 5) λn=>aB b (aA P b 53 n l) λd=>D (.tuple [],d)
def M7(G:ai)(N:Nat)(a:aa)(b:aa)(c:aa)(d:aa)(e:aa)(H:ae):aD Tryz.f169 G N (aP [a,b,c,d,e]) H=oU G a b c d e H:=by
 refine aS (A:=aD Tryz.f169 G N) (aj _) ?_;delta oU;kernel_rfl
def oV(G:ai)(a b:aa)(H:ae):O:=ad (aL a) λi=>ad (ak P 196 i 1) λj=>ad (ah P H 30 j) λk=>ad (aL a) λc=>ad (ak P 196 c 2) λd=>ad (ah P H 3 d) λe=>ad (aF P 30 k e) λf=>ad (ah P H 3 f) λg=>ad (al P .add 3 U g b) λh=>D (h,H)
def M9(G:ai)(N:Nat)(a:aa)(b:aa)(H:ae):aD Tryz.f170 G N (aP [a,b]) H=oV G a b H:=by
 refine aS (A:=aD Tryz.f170 G N) (aj _) ?_;delta oV;kernel_rfl
def gX(G:ai)(N:Nat)(c d:aa)(H:ae):O:=ad (ak P 89 d 1) λi=>ad (ah P H 3 i) λj=>au H (G 172 [c,j] H) λk a=>ax (D k) (ad (ak P 89 d 1) λl=>ad (ah P a 3 l) λm=>au a (G 170 [c,m] a) λn b=>ad (ak P 89 d 3) λe=>ad (ah P b 3 e) λf=>au b (G 173 [c,f] b) λo g=>au g (G 169 [c,I J 2,n,o,I J 0] g) λp h=>bif ((aJ (ah P a 3 e) f&&(aJ (ah P b 3 e) f&&V))&&V)then(D (.tuple [],h))else Y) (D (.tuple [],a))
def Nb(G:ai)(N:Nat):∀C H,aE P G N (af (af (aG Tryz.f171))) (ay Tryz.f171) [] (ay Tryz.f171) C H=gX G N (C 0) (C 3) H:=by
 refine aH (aj _) λC H=> ?_
 delta gX;kernel_rfl
def j2(G:ai)(N:Nat)(a:aa->aa->aa->aa->aa->ae->O)(b c:aa)(e f g:aa)(H:ae):O:=ad (al P .add 3 V g (I J 1)) λd=>a b c e f d H
def Nc(G:ai)(N:Nat)(a:aa->aa->aa->aa->aa->ae->O):∀C H,aE P G N (af (af (af (an (an (af (an (af (aG Tryz.f171))))))))) (λC H=>a (C 0) (C 3) (C 7) (C 8) (C 9) H) [(0,(λC H=>gX G N (C 0) (C 3) H))] (ay Tryz.f171) C H=j2 G N a (C 0) (C 3) (C 7) (C 8) (C 9) H:=by
 refine aH (aj _) λC H=> ?_
 delta j2;kernel_rfl
def tP(G:ai)(N:Nat)(n:aa->aa->aa->aa->aa->ae->O)(b e:aa)(l m d:aa)(H:ae):O:=ad (al P .lss 3 U d m) λq=>ax (D q) (ad (aF P 30 l d) λr=>ad (ah P H 3 r) λo=>au H (G 172 [b,o] H) λs c=>ax (D s) (au c (G 170 [b,o] c) λv a=>ad (aL b) λt=>ad (ak P 196 t 1) λf=>ad (ah P a 30 f) λg=>ad (ak P 89 e 3) λh=>ad (ah P a 3 h) λi=>ad (aF P 30 g i) λj=>ad (ah P a 3 j) λk=>ad (al P .add 3 U k d) λu=>au a (G 169 [b,I J 2,u,v,I J 0] a) λw p=>bif ((aJ (ah P c 30 f) g&&(aJ (ah P a 30 f) g&&V))&&((aJ (ah P c 3 h) i&&(aJ (ah P a 3 h) i&&V))&&((aJ (ah P c 3 j) k&&(aJ (ah P a 3 j) k&&V))&&V)))then(j2 G N n b e l m d p)else Y) (j2 G N n b e l m d c)) (gX G N b e H)
def j3(G:ai)(N:Nat):Nat->aa->aa->aa->aa->aa->ae->O
 |0,_,_,_,_,_,_=>Y
 |n+1,a,b,c,d,e,H=>tP G N (j3 G N n) a b c d e H
def M_(G:ai)(N:Nat)(a:aa->aa->aa->aa->aa->ae->O):∀C H,aE P G N (an (an (af (an (af (aG Tryz.f171)))))) (λC H=>a (C 0) (C 3) (C 7) (C 8) (C 9) H) [(0,(λC H=>gX G N (C 0) (C 3) H))] (ay Tryz.f171) C H=tP G N a (C 0) (C 3) (C 7) (C 8) (C 9) H:=by
 refine aH ((aq j ((aq j ((aq j (Nc G N a) (aj _))) (aj _))) (aj _))) λC H=> ?_
 delta tP;generalize gX G N=b;generalize j2 G N a=c;revert b c;refine id ?_;intro b c;kernel_rfl
def oW(G:ai)(N:Nat)(d e:aa)(H:ae):O:=aO H (bo (H).next e) λb a=>ad (ak P 89 b 5) λf=>ad (ah P a 30 f) λc=>aZ P .len [30] [c] a λg=>j3 G N N d b c g (I J 0) a
def Na(G:ai)(N:Nat)(b:aa)(c:aa)(H:ae):aD Tryz.f171 G N (aP [b,c]) H=oW G N b c H:=by
 refine aS (A:=aD Tryz.f171 G N) ((aq j ((aq j (Nb G N) ((aq j ((aT j ((a8 (k:=λm C H=>j3 G N m (C 0) (C 3) (C 7) (C 8) (C 9) H) j (λC H=>j) (λm=>M_ G N (j3 G N m)))))) (aj _))))) (aj _))) ?_;delta oW;generalize j3 G N N=a;revert a;refine id ?_;intro a;kernel_rfl
def oX(G:ai)(l e:aa)(H:ae):O:=ad (al P .geq 3 V e (I J 0)) λa=>ao a V H (aM l) λv f=>ao a V f (az (aL v)) λw g=>ao a V g (az (ak P 196 w 0)) λm h=>ao a V h (az (ak P 49 m 1)) λn c=>ao a V c (qr (ah P c 23 n)) λo i=>ao a V i (aM e) λp j=>ao a V j (az (aF P 23 o p)) λr d=>ao a V d (qr (ah P d 46 r)) λs b=>ao a V b (λq=>bg b (G 125 [s] b) q) λt k=>ad (aN a (D t) (D (Z U))) λu=>D (u,k)
def Nd(G:ai)(N:Nat)(a:aa)(b:aa)(H:ae):aD Tryz.f172 G N (aP [a,b]) H=oX G a b H:=by
 refine aS (A:=aD Tryz.f172 G N) (aj _) ?_;delta oX;kernel_rfl
def oY(G:ai)(a b:aa)(H:ae):O:=ad (aL a) λd=>ad (ak P 196 d 3) λe=>ad (ah P H 3 e) λf=>ad (al P .add 3 U f b) λc=>D (c,H)
def Nf(G:ai)(N:Nat)(a:aa)(b:aa)(H:ae):aD Tryz.f173 G N (aP [a,b]) H=oY G a b H:=by
 refine aS (A:=aD Tryz.f173 G N) (aj _) ?_;delta oY;kernel_rfl
def oZ(G:ai)(a b:aa)(H:ae):O:=ad (aL a) λi=>ad (ak P 196 i 3) λj=>ad (ah P H 3 j) λk=>ad (aL a) λc=>ad (ak P 196 c 4) λd=>ad (ah P H 24 d) λe=>aZ P .len [24] [e] H λf=>ad (al P .add 3 U k f) λg=>ad (al P .add 3 U g b) λh=>D (h,H)
def Ng(G:ai)(N:Nat)(a:aa)(b:aa)(H:ae):aD Tryz.f174 G N (aP [a,b]) H=oZ G a b H:=by
 refine aS (A:=aD Tryz.f174 G N) (aj _) ?_;delta oZ;kernel_rfl
def o0(G:ai)(b aq:aa)(H:ae):O:=aO H (bo (H).next aq) λa af=>ad (ak P 89 a 0) λa0=>ad (ah P af 3 a0) λa8=>ad (al P .eql 3 V a8 (I J 3)) λx=>ao x V af (aM b) λbn an=>ao x V an (az (ak P 89 a 1)) λav am=>ao x V am (qr (ah P am 3 av)) λaC F=>ao x V F (λq=>bg F (G 172 [bn,aC] F) q) λaD k=>ad (aN x (D aD) (D (Z U))) λaE=>ax (D aE) (ad (ak P 89 a 1) λaF=>ad (ah P k 3 aF) λaG=>au k (G 170 [b,aG] k) λaH l=>ad (ak P 89 a 2) λM=>ad (ah P l 3 M) λN=>au l (G 170 [b,N] l) λaI s=>au s (G 169 [b,I J 2,aH,aI,I J 0] s) λbx t=>bif ((aJ (ah P k 3 M) N&&(aJ (ah P l 3 M) N&&V))&&V)then(D (.tuple [],t))else Y) (ad (ak P 89 a 0) λaK=>ad (ah P k 3 aK) λaL=>ad (al P .eql 3 V aL (I J 6)) λu=>ao u V k (aM b) λaP l=>ao u V l (az (ak P 89 a 1)) λaQ s=>ao u V s (qr (ah P s 3 aQ)) λaR t=>ao u V t (λq=>bg t (G 172 [aP,aR] t) q) λaS h=>ad (aN u (D aS) (D (Z U))) λaT=>ax (D aT) (ad (ak P 89 a 1) λaU=>ad (ah P h 3 aU) λaV=>au h (G 170 [b,aV] h) λaW c=>ad (ak P 89 a 2) λQ=>ad (ah P c 3 Q) λR=>au c (G 170 [b,R] c) λaX d=>ad (ak P 89 a 3) λA=>ad (ah P d 3 A) λB=>au d (G 169 [b,I J 3,aW,aX,B] d) λbz m=>bif ((aJ (ah P h 3 Q) R&&(aJ (ah P c 3 Q) R&&V))&&((aJ (ah P h 3 A) B&&(aJ (ah P c 3 A) B&&(aJ (ah P d 3 A) B&&V)))&&V))then(D (.tuple [],m))else Y) (ad (ak P 89 a 0) λaY=>ad (ah P h 3 aY) λaZ=>ad (al P .eql 3 V aZ (I J 8)) λv=>ao v V h (aM b) λa1 c=>ao v V c (az (ak P 89 a 1)) λa2 d=>ao v V d (qr (ah P d 3 a2)) λa3 m=>ao v V m (λq=>bg m (G 172 [a1,a3] m) q) λa4 i=>ad (aN v (D a4) (D (Z U))) λa5=>ax (D a5) (ad (ak P 89 a 1) λa6=>ad (ah P i 3 a6) λa7=>au i (G 170 [b,a7] i) λa9 j=>ad (ak P 89 a 2) λS=>ad (ah P j 3 S) λT=>au j (G 170 [b,T] j) λa_ n=>au n (G 169 [b,I J 3,a9,a_,I J 0] n) λbA o=>bif ((aJ (ah P i 3 S) T&&(aJ (ah P j 3 S) T&&V))&&V)then(D (.tuple [],o))else Y) (ad (ak P 89 a 0) λba=>ad (ah P i 3 ba) λbb=>ad (al P .eql 3 V bb (I J 7)) λw=>ao w V i (aM b) λbc j=>ao w V j (az (ak P 89 a 2)) λbd n=>ao w V n (qr (ah P n 3 bd)) λbe o=>ao w V o (λq=>bg o (G 172 [bc,be] o) q) λbf e=>ad (aN w (D bf) (D (Z U))) λbh=>ax (D bh) (ad (ak P 89 a 1) λbi=>ad (ah P e 3 bi) λbj=>au e (G 170 [b,bj] e) λbk f=>ad (ak P 89 a 2) λW=>ad (ah P f 3 W) λab=>au f (G 170 [b,ab] f) λbl g=>ad (ak P 89 a 3) λC=>ad (ah P g 3 C) λE=>au g (G 169 [b,I J 4,bk,bl,E] g) λbB p=>bif ((aJ (ah P e 3 W) ab&&(aJ (ah P f 3 W) ab&&V))&&((aJ (ah P e 3 C) E&&(aJ (ah P f 3 C) E&&(aJ (ah P g 3 C) E&&V)))&&V))then(D (.tuple [],p))else Y) (ad (ak P 89 a 0) λbm=>ad (ah P e 3 bm) λbp=>ad (al P .eql 3 V bp (I J 9)) λy=>ao y V e (aM b) λbq f=>ao y V f (az (ak P 89 a 3)) λbs g=>ao y V g (qr (ah P g 3 bs)) λbt p=>ao y V p (λq=>bg p (G 172 [bq,bt] p) q) λbu r=>ad (aN y (D bu) (D (Z U))) λbv=>ax (D bv) (ad (ak P 89 a 1) λaw=>ad (ah P r 3 aw) λay=>au r (G 170 [b,ay] r) λaA z=>ad (ak P 89 a 3) λK=>ad (ah P z 3 K) λL=>au z (G 170 [b,L] z) λaB aj=>au aj (G 169 [b,I J 4,aA,aB,I J 0] aj) λbw ap=>bif ((aJ (ah P r 3 K) L&&(aJ (ah P z 3 K) L&&V))&&V)then(D (.tuple [],ap))else Y) (D (.tuple [],r))))))
def Nh(G:ai)(N:Nat)(a:aa)(b:aa)(H:ae):aD Tryz.f175 G N (aP [a,b]) H=o0 G a b H:=by
 refine aS (A:=aD Tryz.f175 G N) (aj _) ?_;delta o0;kernel_rfl
end
end
section
set_option maxRecDepth 100000
noncomputable section
def fK(G:ai)(N:Nat)(b d:aa)(H:ae):O:=ad (ah P H 154 d) λc=>aB H (aA P H 154 b c) λa=>ad (ah P a 154 b) λr=>D (.tuple [r,I J 0],a)
def Lo(G:ai)(N:Nat):∀C H,aE P G N (af (af (af (af (af (af (af (af (af (af (af (aG Tryz.f130)))))))))))) (ay Tryz.f130) [] (ay Tryz.f130) C H=fK G N (C 8) (C 16) H:=by
 refine aH (aj _) λC H=> ?_
 delta fK;kernel_rfl
def gT(G:ai)(N:Nat)(a:aa->aa->aa->aa->aa->aa->ae->O)(g h:aa)(d f:aa)(b c:aa)(H:ae):O:=ad (al P .add 3 V c (I J 1)) λe=>a g h d f b e H
def Lp(G:ai)(N:Nat)(a:aa->aa->aa->aa->aa->aa->ae->O):∀C H,aE P G N (af (af (af (an (an (af (an (af (af (af (af (af (af (af (af (af (af (aG Tryz.f130)))))))))))))))))) (λC H=>a (C 6) (C 8) (C 12) (C 16) (C 104) (C 105) H) [(6,(λC H=>fK G N (C 8) (C 16) H))] (ay Tryz.f130) C H=gT G N a (C 6) (C 8) (C 12) (C 16) (C 104) (C 105) H:=by
 refine aH (aj _) λC H=> ?_
 delta gT;kernel_rfl
def ti(G:ai)(N:Nat)(r:aa->aa->aa->aa->aa->aa->ae->O)(s:aa->aa->aa->aa->aa->aa->aa->aa->aa->ae->O)(p q:aa)(f k:aa)(l m:aa)(n o c:aa)(H:ae):O:=ad (al P .lss 3 U c o) λu=>ax (D u) (au H (G 184 [f,l,c] H) λw a=>ad (aL f) λv=>ad (ak P 248 v 2) λi=>ad (ah P a 243 i) λj=>ad (aF P 243 j w) λx=>ad (ah P a 251 x) λy=>au a (G 183 [y] a) λz b=>ad (ak P 154 k 1) λd=>ad (ah P b 152 d) λe=>ad (aF P 152 e l) λg=>ad (ah P b 31 g) λh=>ad (aF P 31 h c) λA=>aB b (aA P b 30 A z) λt=>bif ((aJ (ah P H 243 i) j&&(aJ (ah P a 243 i) j&&V))&&((aJ (ah P H 152 d) e&&(aJ (ah P a 152 d) e&&(aJ (ah P b 152 d) e&&V)))&&((aJ (ah P H 31 g) h&&(aJ (ah P a 31 g) h&&(aJ (ah P b 31 g) h&&V)))&&V)))then(ad (al P .add 3 V c (I J 1)) λB=>s p q f k l m n o B t)else Y) (gT G N r p q f k m n H)
def iO(G:ai)(N:Nat)(a:aa->aa->aa->aa->aa->aa->ae->O):Nat->aa->aa->aa->aa->aa->aa->aa->aa->aa->ae->O
 |0,_,_,_,_,_,_,_,_,_,_=>Y
 |n+1,i,j,f,g,h,b,c,d,e,H=>ti G N a (iO G N a n) i j f g h b c d e H
def Lg(G:ai)(N:Nat)(a:aa->aa->aa->aa->aa->aa->ae->O)(c:aa->aa->aa->aa->aa->aa->aa->aa->aa->ae->O):∀C H,aE P G N (an (an (af (af (af (an (an (af (af (an (an (af (an (af (af (af (af (af (af (af (af (af (af (aG Tryz.f130)))))))))))))))))))))))) (λC H=>c (C 6) (C 8) (C 12) (C 16) (C 18) (C 104) (C 105) (C 114) (C 115) H) [(8,(λC H=>gT G N a (C 6) (C 8) (C 12) (C 16) (C 104) (C 105) H)),(7,(λC H=>gT G N a (C 6) (C 8) (C 12) (C 16) (C 104) (C 105) H)),(6,(λC H=>fK G N (C 8) (C 16) H))] (ay Tryz.f130) C H=ti G N a c (C 6) (C 8) (C 12) (C 16) (C 18) (C 104) (C 105) (C 114) (C 115) H:=by
 refine aH (aj _) λC H=> ?_
 delta ti;generalize gT G N a=b;revert b;refine id ?_;intro b;kernel_rfl
def th(G:ai)(N:Nat)(k:aa->aa->aa->aa->aa->aa->ae->O)(f j:aa)(p e:aa)(h a:aa)(H:ae):O:=ad (al P .lss 3 U a h) λl=>ax (D l) (ad (ak P 154 e 1) λc=>ad (ah P H 152 c) λd=>ad (ah P H 3 f) λi=>aO H (cz (cO P ⟨.leaf,(H).next⟩ 31 i i) (H).next) λm b=>ad (aF P 152 d a) λn=>aB b (aA P b 31 n m) λg=>bif ((aJ (ah P H 152 c) d&&(aJ (ah P b 152 c) d&&V))&&V)then(ad (ah P g 3 f) λo=>iO G N k N f j p e a h a o (I J 0) g)else Y) (fK G N j e H)
def iN(G:ai)(N:Nat):Nat->aa->aa->aa->aa->aa->aa->ae->O
 |0,_,_,_,_,_,_,_=>Y
 |n+1,e,f,c,d,a,b,H=>th G N (iN G N n) e f c d a b H
def Lf(G:ai)(N:Nat)(a:aa->aa->aa->aa->aa->aa->ae->O):∀C H,aE P G N (an (an (af (an (af (af (af (af (af (af (af (af (af (af (aG Tryz.f130))))))))))))))) (λC H=>a (C 6) (C 8) (C 12) (C 16) (C 104) (C 105) H) [(6,(λC H=>fK G N (C 8) (C 16) H))] (ay Tryz.f130) C H=th G N a (C 6) (C 8) (C 12) (C 16) (C 104) (C 105) H:=by
 refine aH ((aq j ((aq j ((aq j (Lp G N a) ((aT j ((aq j ((aq j ((aq j ((aT j ((a8 (k:=λm C H=>iO G N a m (C 6) (C 8) (C 12) (C 16) (C 18) (C 104) (C 105) (C 114) (C 115) H) j (λC H=>j) (λm=>Lg G N a (iO G N a m)))))) (aj _))) (aj _))) (aj _))))))) (aj _))) (aj _))) λC H=> ?_
 delta th;generalize fK G N=b;generalize iO G N a N=c;revert b c;refine id ?_;intro b c;kernel_rfl
def iM(G:ai)(N:Nat)(f g:aa)(e a:aa)(H:ae):O:=ad (ak P 154 a 1) λb=>ad (ah P H 152 b) λc=>aZ P .len [152] [c] H λd=>iN G N N f g e a d (I J 0) H
def Ln(G:ai)(N:Nat):∀C H,aE P G N (af (af (af (af (af (af (af (af (af (af (aG Tryz.f130))))))))))) (ay Tryz.f130) [] (ay Tryz.f130) C H=iM G N (C 6) (C 8) (C 12) (C 16) H:=by
 refine aH ((aq j (Lo G N) ((aq j ((aT j ((a8 (k:=λm C H=>iN G N m (C 6) (C 8) (C 12) (C 16) (C 104) (C 105) H) j (λC H=>j) (λm=>Lf G N (iN G N m)))))) (aj _))))) λC H=> ?_
 delta iM;generalize iN G N N=a;revert a;refine id ?_;intro a;kernel_rfl
def tj(G:ai)(N:Nat)(j:aa->aa->aa->aa->aa->aa->ae->O)(g h:aa)(c d:aa)(i b:aa)(H:ae):O:=ad (al P .lss 3 U b i) λn=>ax (D n) (ad (aL c) λo=>ad (ak P 248 o 2) λp=>ad (ah P H 243 p) λq=>ad (aF P 243 q b) λr=>ad (ah P H 251 r) λs=>au H (G 183 [s] H) λt a=>ad (ak P 154 d 0) λe=>ad (ah P a 31 e) λf=>ad (aF P 31 f b) λl=>aB a (aA P a 30 l t) λk=>bif ((aJ (ah P H 31 e) f&&(aJ (ah P a 31 e) f&&V))&&V)then(ad (al P .add 3 V b (I J 1)) λm=>j g h c d i m k)else Y) (iM G N g h c d H)
def iP(G:ai)(N:Nat):Nat->aa->aa->aa->aa->aa->aa->ae->O
 |0,_,_,_,_,_,_,_=>Y
 |n+1,c,d,a,b,e,f,H=>tj G N (iP G N n) c d a b e f H
def Lh(G:ai)(N:Nat)(b:aa->aa->aa->aa->aa->aa->ae->O):∀C H,aE P G N (an (an (af (an (af (af (af (af (af (af (af (af (af (aG Tryz.f130)))))))))))))) (λC H=>b (C 6) (C 8) (C 12) (C 16) (C 85) (C 86) H) [(4,(λC H=>iM G N (C 6) (C 8) (C 12) (C 16) H))] (ay Tryz.f130) C H=tj G N b (C 6) (C 8) (C 12) (C 16) (C 85) (C 86) H:=by
 refine aH (aj _) λC H=> ?_
 delta tj;generalize iM G N=a;revert a;refine id ?_;intro a;kernel_rfl
def iL(G:ai)(N:Nat)(j f:aa)(l n i:aa)(H:ae):O:=au H (G 182 [i] H) λt a=>ad (ah P a 3 j) λg=>aO a (cz (cO P ⟨.leaf,(a).next⟩ 31 g g) (a).next) λm b=>ad (ah P b 3 f) λc=>aO b (cz (cO P ⟨.leaf,(b).next⟩ 152 c c) (b).next) λo k=>ad (bh P 154 [(0,m),(1,o)]) λp=>a7 k [aa.ar,aa.ar] λe h=>aB h (aA P h 154 e p) λd=>bif ((aJ (ah P a 3 j) g&&V)&&((aJ (ah P a 3 f) c&&(aJ (ah P b 3 f) c&&V))&&V))then(ad (ak P 154 e 0) λq=>ad (ah P d 31 q) λr=>aZ P .len [31] [r] d λs=>iP G N N l n i e s (I J 0) d)else Y
def Lm(G:ai)(N:Nat):∀C H,aE P G N (af (af (af (af (af (af (af (aG Tryz.f130)))))))) (ay Tryz.f130) [] (ay Tryz.f130) C H=iL G N (C 4) (C 5) (C 6) (C 8) (C 12) H:=by
 refine aH ((aq j ((aq j ((aq j (Ln G N) ((aq j ((aT j ((a8 (k:=λm C H=>iP G N m (C 6) (C 8) (C 12) (C 16) (C 85) (C 86) H) j (λC H=>j) (λm=>Lh G N (iP G N m)))))) (aj _))))) (aj _))) (aj _))) λC H=> ?_
 delta iL;generalize iP G N N=a;revert a;refine id ?_;intro a;kernel_rfl
def tk(G:ai)(N:Nat)(h:aa->aa->aa->aa->aa->aa->aa->ae->O)(c d:aa)(e g:aa)(a f b:aa)(H:ae):O:=ad (al P .lss 3 U b f) λj=>ax (D j) (au H (G 181 [a,b] H) λl i=>ad (al P .add 3 V b (I J 1)) λk=>h c d e g a f k i) (iL G N c d e g a H)
def iQ(G:ai)(N:Nat):Nat->aa->aa->aa->aa->aa->aa->aa->ae->O
 |0,_,_,_,_,_,_,_,_=>Y
 |n+1,b,c,d,g,a,e,f,H=>tk G N (iQ G N n) b c d g a e f H
def Li(G:ai)(N:Nat)(b:aa->aa->aa->aa->aa->aa->aa->ae->O):∀C H,aE P G N (an (an (af (an (af (af (af (af (af (af (aG Tryz.f130))))))))))) (λC H=>b (C 4) (C 5) (C 6) (C 8) (C 12) (C 68) (C 69) H) [(2,(λC H=>iL G N (C 4) (C 5) (C 6) (C 8) (C 12) H))] (ay Tryz.f130) C H=tk G N b (C 4) (C 5) (C 6) (C 8) (C 12) (C 68) (C 69) H:=by
 refine aH (aj _) λC H=> ?_
 delta tk;generalize iL G N=a;revert a;refine id ?_;intro a;kernel_rfl
def iK(G:ai)(N:Nat)(c d:aa)(e f:aa)(a b:aa)(H:ae):O:=iQ G N N c d e f b a (I J 0) H
def Ll(G:ai)(N:Nat):∀C H,aE P G N (af (af (af (af (af (af (aG Tryz.f130))))))) (ay Tryz.f130) [] (ay Tryz.f130) C H=iK G N (C 4) (C 5) (C 6) (C 8) (C 11) (C 12) H:=by
 refine aH ((aq j (Lm G N) ((aq j ((aT j ((a8 (k:=λm C H=>iQ G N m (C 4) (C 5) (C 6) (C 8) (C 12) (C 68) (C 69) H) j (λC H=>j) (λm=>Li G N (iQ G N m)))))) (aj _))))) λC H=> ?_
 delta iK;generalize iQ G N N=a;revert a;refine id ?_;intro a;kernel_rfl
def tl(G:ai)(N:Nat)(m:aa->aa->aa->aa->aa->aa->aa->aa->aa->ae->O)(g h:aa)(k l:aa)(e b:aa)(i j c:aa)(H:ae):O:=ad (al P .lss 3 U c j) λo=>ax (D o) (ad (aF P 53 i c) λp=>ad (ah P H 56 p) λq=>a7 H [I J 0,I J 0,I J 0,I J 0] λf d=>aB d (aA P d 56 f q) λa=>ad (ah P a 56 f) λr=>au a (G 180 [b,r] a) λt n=>ad (al P .add 3 V c (I J 1)) λs=>m g h k l e b i j s n) (iK G N g h k l e b H)
def iR(G:ai)(N:Nat):Nat->aa->aa->aa->aa->aa->aa->aa->aa->aa->ae->O
 |0,_,_,_,_,_,_,_,_,_,_=>Y
 |n+1,c,d,g,i,a,b,e,f,h,H=>tl G N (iR G N n) c d g i a b e f h H
def Lj(G:ai)(N:Nat)(b:aa->aa->aa->aa->aa->aa->aa->aa->aa->ae->O):∀C H,aE P G N (an (an (af (an (af (af (af (af (af (aG Tryz.f130)))))))))) (λC H=>b (C 4) (C 5) (C 6) (C 8) (C 11) (C 12) (C 58) (C 59) (C 60) H) [(0,(λC H=>iK G N (C 4) (C 5) (C 6) (C 8) (C 11) (C 12) H))] (ay Tryz.f130) C H=tl G N b (C 4) (C 5) (C 6) (C 8) (C 11) (C 12) (C 58) (C 59) (C 60) H:=by
 refine aH (aj _) λC H=> ?_
 delta tl;generalize iK G N=a;revert a;refine id ?_;intro a;kernel_rfl
def oj(G:ai)(N:Nat)(L M:aa)(Q w:aa)(H:ae):O:=aO H (bo (H).next L) λb y=>aO y (bo (y).next M) λn A=>aO A (bo (A).next Q) λc F=>a7 F [aa.ar,aa.ar] λx p=>ad (ah P p 3 b) λR=>au p (G 176 [R,I J 70001] p) λu B=>ao u V B (qr (ah P B 3 n)) λS s=>ao u V s (λq=>bg s (G 176 [S,I J 61] s) q) λT C=>ad (aN u (D T) (D (Z U))) λv=>ao v V C (qr (ah P C 3 c)) λW t=>ao v V t (λq=>bg t (G 176 [W,I J 9] t) q) λab K=>ad (aN v (D ab) (D (Z U))) λaf=>ad (bt .not af) λm=>ao m U K (aM w) λaj E=>ao m U E (aM (.func (.func 178) [] [b,n,c])) λak o=>ao m U o (λq=>bg o (G 177 [aj,ak] o) q) λam a=>ad (aN m (D (Z V)) (D am)) λan=>ax (D an) (aB a (aA P a 154 x (.agg [aa.ar,aa.ar])) λe=>ad (ah P e 154 x) λr=>D (.tuple [r,I J 5],e)) (ad (ah P a 3 b) λap=>ad (ah P a 3 n) λaq=>ad (ah P a 3 c) λav=>ad (al P .mul 3 U aq av) λaw=>ad (al P .add 3 U ap aw) λd=>ad (ah P a 3 b) λf=>ad (ah P a 3 c) λg=>aO a (cz (cO P ⟨.leaf,(a).next⟩ 243 d d) (a).next) λay e=>aO e (cz (cO P ⟨.leaf,(e).next⟩ 31 d d) (e).next) λaz h=>aO h (cz (cO P ⟨.leaf,(h).next⟩ 244 d d) (h).next) λaC i=>aO i (cz (cO P ⟨.leaf,(i).next⟩ 243 d d) (i).next) λaD k=>aO k (D (.map (k).next,.map [])) λaE j=>aO j (cz (cO P ⟨.leaf,(j).next⟩ 104 d d) (j).next) λaF l=>ad (bh P 248 [(0,f),(1,g),(2,ay),(3,az),(4,aC),(5,aD),(6,aE),(8,aF)]) λaG=>aO l (bo (l).next aG) λaH z=>bif ((aJ (ah P a 3 b) f&&(aJ (ah P e 3 b) f&&(aJ (ah P h 3 b) f&&(aJ (ah P i 3 b) f&&(aJ (ah P k 3 b) f&&(aJ (ah P j 3 b) f&&(aJ (ah P l 3 b) f&&V)))))))&&((aJ (ah P a 3 c) g&&(aJ (ah P e 3 c) g&&(aJ (ah P h 3 c) g&&(aJ (ah P i 3 c) g&&(aJ (ah P k 3 c) g&&(aJ (ah P j 3 c) g&&(aJ (ah P l 3 c) g&&V)))))))&&V))then(aZ P .len [53] [w] z λaI=>iR G N N b n c x d aH w aI (I J 0) z)else Y)
def Lk(G:ai)(N:Nat)(b:aa)(c:aa)(d:aa)(e:aa)(H:ae):aD Tryz.f130 G N (aP [b,c,d,e]) H=oj G N b c d e H:=by
 refine aS (A:=aD Tryz.f130 G N) ((aq j ((aq j ((aq j ((aq j ((aq j ((aq j (Ll G N) ((aq j ((aT j ((a8 (k:=λm C H=>iR G N m (C 4) (C 5) (C 6) (C 8) (C 11) (C 12) (C 58) (C 59) (C 60) H) j (λC H=>j) (λm=>Lj G N (iR G N m)))))) (aj _))))) (aj _))) (aj _))) (aj _))) (aj _))) (aj _))) ?_;delta oj;generalize iR G N N=a;revert a;refine id ?_;intro a;kernel_rfl
def o1(G:ai)(b f:aa)(H:ae):O:=ad (al P .geq 3 V b (I J 0)) λa=>ao a V H (aM b) λi c=>ao a V c (aM f) λj d=>ao a V d (az (al P .lss 3 U i j)) λg e=>ad (aN a (D g) (D (Z U))) λh=>D (h,e)
def Ni(G:ai)(N:Nat)(a:aa)(b:aa)(H:ae):aD Tryz.f176 G N (aP [a,b]) H=o1 G a b H:=by
 refine aS (A:=aD Tryz.f176 G N) (aj _) ?_;delta o1;kernel_rfl
def o3(G:ai)(c d:aa)(g h:aa)(H:ae):O:=aO H (bo (H).next c) λi a=>ad (ah P a 56 i) λj=>ad (ah P a 3 d) λk=>ad (ah P a 3 g) λl=>ad (ah P a 3 h) λm=>au a (G 179 [j,k,l,m] a) λe b=>ad (bt .not e) λf=>D (f,b)
def Nk(G:ai)(N:Nat)(a:aa)(b:aa)(c:aa)(d:aa)(H:ae):aD Tryz.f178 G N (aP [a,b,c,d]) H=o3 G a b c d H:=by
 refine aS (A:=aD Tryz.f178 G N) (aj _) ?_;delta o3;kernel_rfl
def gY(G:ai)(H:ae):O:=some ((Z U),H)
def Nm(G:ai)(N:Nat):∀C H,aE P G N (af (af (aG Tryz.f179))) (ay Tryz.f179) [] (ay Tryz.f179) C H=gY G H:=by
 refine aH (aj _) λC H=> ?_
 delta gY;kernel_rfl
def j4(G:ai)(l m:aa)(r c:aa)(p s:aa)(H:ae):O:=ax (D s) (ad (ak P 56 c 1) λt=>ad (ah P H 3 t) λu=>au H (G 176 [u,l] H) λd g=>ao d V g (az (ak P 56 c 2)) λv b=>ao d V b (qr (ah P b 3 v)) λw h=>ao d V h (aM l) λx a=>ao d V a (λq=>bg a (G 176 [w,x] a) q) λy i=>ad (aN d (D y) (D (Z U))) λe=>ao e V i (az (ak P 56 c 3)) λz k=>ao e V k (qr (ah P k 3 z)) λA n=>ao e V n (aM r) λB j=>ao e V j (λq=>bg j (G 176 [A,B] j) q) λC o=>ad (aN e (D C) (D (Z U))) λE=>D (E,o)) (ad (al P .eql 3 V p (I J 5)) λF=>ax (D F) (ad (ak P 56 c 1) λK=>ad (ah P H 3 K) λL=>au H (G 176 [L,m] H) λf g=>ao f V g (az (ak P 56 c 2)) λM b=>ao f V b (qr (ah P b 3 M)) λN h=>ao f V h (aM m) λQ a=>ao f V a (λq=>bg a (G 176 [N,Q] a) q) λR i=>ad (aN f (D R) (D (Z U))) λS=>D (S,i)) (gY G H))
def Nn(G:ai)(N:Nat):∀C H,aE P G N (af (af (af (af (af (an (af (an (af (aG Tryz.f179)))))))))) (λC H=>gY G H) [(0,(λC H=>gY G H))] (ay Tryz.f179) C H=j4 G (C 1) (C 2) (C 3) (C 4) (C 10) (C 35) H:=by
 refine aH (aj _) λC H=> ?_
 delta j4;generalize gY G=a;revert a;refine id ?_;intro a;kernel_rfl
def o4(G:ai)(o f:aa)(l m:aa)(H:ae):O:=aO H (bo (H).next o) λc a=>ad (ak P 56 c 0) λM=>ad (ah P a 3 M) λd=>ad (al P .eql 3 V d (I J 1)) λp=>ax (D p) (ad (ak P 56 c 1) λr=>ad (ah P a 3 r) λs=>au a (G 176 [s,f] a) λg i=>ao g V i (az (ak P 56 c 2)) λt e=>ao g V e (qr (ah P e 3 t)) λu j=>ao g V j (aM l) λv b=>ao g V b (λq=>bg b (G 176 [u,v] b) q) λw k=>ad (aN g (D w) (D (Z U))) λx=>D (x,k)) (ad (al P .eql 3 V d (I J 2)) λy=>ax (D y) (ad (ak P 56 c 1) λz=>ad (ah P a 3 z) λA=>au a (G 176 [A,f] a) λh i=>ao h V i (az (ak P 56 c 2)) λB e=>ao h V e (qr (ah P e 3 B)) λC j=>ao h V j (aM f) λE b=>ao h V b (λq=>bg b (G 176 [C,E] b) q) λF k=>ad (aN h (D F) (D (Z U))) λK=>D (K,k)) (ad (al P .eql 3 V d (I J 3)) λn=>ax (D n) (j4 G f l m c d n a) (ad (al P .eql 3 V d (I J 4)) λL=>j4 G f l m c d L a)))
def Nl(G:ai)(N:Nat)(b:aa)(c:aa)(d:aa)(e:aa)(H:ae):aD Tryz.f179 G N (aP [b,c,d,e]) H=o4 G b c d e H:=by
 refine aS (A:=aD Tryz.f179 G N) ((aq j ((aq j (Nm G N) ((aq j ((aT j ((aq j ((bB j (aj _) ((aq j ((bB j (aj _) ((aq j (Nn G N) (aj _))))) (aj _))))) (aj _))))) (aj _))))) (aj _))) ?_;delta o4;generalize j4 G=a;revert a;refine id ?_;intro a;kernel_rfl
def tR(G:ai)(N:Nat)(n:aa->aa->aa->aa->ae->O)(a c:aa)(m b:aa)(H:ae):O:=ad (al P .lss 3 U b m) λt=>ax (D t) (ad (ak P 56 c 1) λu=>ad (ah P H 3 u) λv=>au H (G 184 [a,v,b] H) λw d=>ad (ak P 56 c 2) λi=>ad (ah P d 3 i) λj=>au d (G 184 [a,j,b] d) λx k=>au k (G 221 [a,w,x] k) λA e=>bif ((aJ (ah P H 3 i) j&&(aJ (ah P d 3 i) j&&V))&&V)then(ad (ak P 56 c 2) λy=>ad (ah P e 3 y) λp=>au e (G 184 [a,p,b] e) λq f=>ad (ak P 56 c 1) λg=>ad (ah P f 3 g) λh=>au f (G 184 [a,h,b] f) λr l=>au l (G 221 [a,q,r] l) λz o=>bif ((aJ (ah P e 3 g) h&&(aJ (ah P f 3 g) h&&V))&&V)then(ad (al P .add 3 V b (I J 1)) λs=>n a c m s o)else Y)else Y) (D (.tuple [],H))
def j7(G:ai)(N:Nat):Nat->aa->aa->aa->aa->ae->O
 |0,_,_,_,_,_=>Y
 |n+1,a,b,c,d,H=>tR G N (j7 G N n) a b c d H
def Nr(G:ai)(N:Nat)(a:aa->aa->aa->aa->ae->O):∀C H,aE P G N (an (an (af (an (af (af (af (af (af (af (af (af (af (an (af (af (aG Tryz.f180))))))))))))))))) (λC H=>a (C 0) (C 3) (C 81) (C 82) H) [(1,(ay Tryz.f180)),(0,(ay Tryz.f180))] (ay Tryz.f180) C H=tR G N a (C 0) (C 3) (C 81) (C 82) H:=by
 refine aH (aj _) λC H=> ?_
 delta tR;kernel_rfl
def o6(G:ai)(N:Nat)(e B:aa)(H:ae):O:=aO H (bo (H).next B) λc a=>ad (ak P 56 c 0) λaC=>ad (ah P a 3 aC) λf=>ad (al P .eql 3 V f (I J 1)) λaW=>ax (D aW) (ad (ak P 56 c 1) λC=>ad (ah P a 3 C) λE=>ad (ak P 56 c 2) λF=>ad (ah P a 3 F) λK=>ad (al P .shl 251 V (I .u64 1) K) λL=>au a (G 220 [e,E,L] a) λaZ b=>D (.tuple [],b)) (ad (al P .eql 3 V f (I J 2)) λM=>ax (D M) (ad (ak P 56 c 2) λQ=>ad (ah P a 3 Q) λR=>ad (ak P 56 c 1) λS=>ad (ah P a 3 S) λT=>au a (G 221 [e,R,T] a) λa0 b=>D (.tuple [],b)) (ad (al P .eql 3 V f (I J 3)) λW=>ax (D W) (ad (aL e) λaf=>ad (ak P 248 af 4) λp=>ad (ah P a 244 p) λq=>ad (ak P 56 c 2) λr=>ad (ah P a 3 r) λs=>ad (aF P 244 q s) λt=>ad (ah P a 284 t) λu=>ad (ak P 56 c 0) λaj=>ad (ah P a 3 aj) λam=>ad (ak P 56 c 1) λan=>ad (ah P a 3 an) λao=>ad (ak P 56 c 3) λap=>ad (ah P a 3 ap) λaq=>ad (bh P 286 [(0,am),(1,ao),(2,aq)]) λav=>aO a (bl P (a).next 284 1 [(0,av)]) λaw b=>au b (bJ P b [284,284] u aw) λay d=>ad (aL e) λab=>ad (ak P 248 ab 4) λg=>ad (ah P d 244 g) λh=>ad (ak P 56 c 2) λi=>ad (ah P d 3 i) λj=>ad (aF P 244 h j) λaz=>aB d (aA P d 284 az ay) λo=>bif ((aJ (ah P a 244 p) q&&(aJ (ah P b 244 p) q&&V))&&((aJ (ah P a 3 r) s&&(aJ (ah P b 3 r) s&&V))&&((aJ (ah P a 284 t) u&&(aJ (ah P b 284 t) u&&V))&&((aJ (ah P a 244 g) h&&(aJ (ah P b 244 g) h&&(aJ (ah P d 244 g) h&&V)))&&((aJ (ah P a 3 i) j&&(aJ (ah P b 3 i) j&&(aJ (ah P d 3 i) j&&V)))&&V)))))then(D (.tuple [],o))else Y) (ad (al P .eql 3 V f (I J 4)) λaD=>ax (D aD) (ad (aL e) λaG=>ad (ak P 248 aG 4) λv=>ad (ah P a 244 v) λw=>ad (ak P 56 c 1) λx=>ad (ah P a 3 x) λy=>ad (aF P 244 w y) λz=>ad (ah P a 284 z) λA=>ad (ak P 56 c 0) λaH=>ad (ah P a 3 aH) λaI=>ad (ak P 56 c 2) λaK=>ad (ah P a 3 aK) λaM=>ad (ak P 56 c 3) λaN=>ad (ah P a 3 aN) λaP=>ad (bh P 286 [(0,aI),(1,aM),(2,aP)]) λaQ=>aO a (bl P (a).next 284 1 [(0,aQ)]) λaR b=>au b (bJ P b [284,284] A aR) λaS d=>ad (aL e) λaE=>ad (ak P 248 aE 4) λk=>ad (ah P d 244 k) λl=>ad (ak P 56 c 1) λm=>ad (ah P d 3 m) λn=>ad (aF P 244 l n) λaT=>aB d (aA P d 284 aT aS) λo=>bif ((aJ (ah P a 244 v) w&&(aJ (ah P b 244 v) w&&V))&&((aJ (ah P a 3 x) y&&(aJ (ah P b 3 x) y&&V))&&((aJ (ah P a 284 z) A&&(aJ (ah P b 284 z) A&&V))&&((aJ (ah P a 244 k) l&&(aJ (ah P b 244 k) l&&(aJ (ah P d 244 k) l&&V)))&&((aJ (ah P a 3 m) n&&(aJ (ah P b 3 m) n&&(aJ (ah P d 3 m) n&&V)))&&V)))))then(D (.tuple [],o))else Y) (ad (al P .eql 3 V f (I J 5)) λaU=>ax (D aU) (ad (aL e) λaV=>ad (ak P 248 aV 1) λaX=>ad (ah P a 3 aX) λaY=>j7 G N N e c aY (I J 0) a) (D (.tuple [],a))))))
def Ns(G:ai)(N:Nat)(b:aa)(c:aa)(H:ae):aD Tryz.f180 G N (aP [b,c]) H=o6 G N b c H:=by
 refine aS (A:=aD Tryz.f180 G N) ((aq j ((aq j ((aT j ((aq j ((bB j (aj _) ((aq j ((bB j (aj _) ((aq j ((bB j (aj _) ((aq j ((bB j (aj _) ((aq j ((bB j ((aq j ((aT j ((a8 (k:=λm C H=>j7 G N m (C 0) (C 3) (C 81) (C 82) H) j (λC H=>j) (λm=>Nr G N (j7 G N m)))))) (aj _))) (aj _))) (aj _))))) (aj _))))) (aj _))))) (aj _))))) (aj _))))) (aj _))) (aj _))) ?_;delta o6;generalize j7 G N N=a;revert a;refine id ?_;intro a;kernel_rfl
def o7(G:ai)(a b:aa)(H:ae):O:=ad (aL a) λo=>ad (ak P 248 o 8) λp=>ad (ah P H 104 p) λq=>ad (aF P 104 q b) λr=>ad (ah P H 4 r) λe=>ad (bt .not e) λf=>ax (D f) (ad (aL a) λg=>ad (ak P 248 g 8) λh=>ad (ah P H 104 h) λi=>ad (aF P 104 i b) λj=>aB H (aA P H 4 j (Z V)) λc=>ad (aL a) λk=>ad (ak P 248 k 7) λl=>ad (ej P 288 l) λm=>ad (ej P 3 b) λn=>au c (G 222 [m,n] c) λs d=>D (.tuple [],d)) (D (.tuple [],H))
def Nt(G:ai)(N:Nat)(a:aa)(b:aa)(H:ae):aD Tryz.f181 G N (aP [a,b]) H=o7 G a b H:=by
 refine aS (A:=aD Tryz.f181 G N) (aj _) ?_;delta o7;kernel_rfl
def tT(G:ai)(N:Nat)(f:aa->ae->O)(g:aa->aa->aa->aa->aa->ae->O)(a c:aa)(d e b:aa)(H:ae):O:=ad (al P .lss 3 U b e) λi=>ax (D i) (ad (aF P 30 d b) λj=>ad (ah P H 3 j) λk=>ad (aL a) λl=>ad (ak P 248 l 2) λm=>ad (ah P H 243 m) λn=>ad (aF P 243 n c) λo=>ad (ah P H 251 o) λp=>au H (G 220 [a,k,p] H) λr h=>ad (al P .add 3 V b (I J 1)) λq=>g a c d e q h) (f a H)
def j_(G:ai)(N:Nat)(a:aa->ae->O):Nat->aa->aa->aa->aa->aa->ae->O
 |0,_,_,_,_,_,_=>Y
 |n+1,b,c,d,e,f,H=>tT G N a (j_ G N a n) b c d e f H
def Nv(G:ai)(N:Nat)(a:aa->ae->O)(c:aa->aa->aa->aa->aa->ae->O):∀C H,aE P G N (an (an (af (af (af (af (af (af (an (af (an (an (aG Tryz.f182))))))))))))) (λC H=>c (C 0) (C 2) (C 69) (C 70) (C 71) H) [(4,(λC H=>a (C 0) H)),(1,(λC H=>a (C 0) H)),(0,(ay Tryz.f182))] (ay Tryz.f182) C H=tT G N a c (C 0) (C 2) (C 69) (C 70) (C 71) H:=by
 refine aH (aj _) λC H=> ?_
 delta tT;generalize a=b;revert b;refine id ?_;intro b;kernel_rfl
def j8(G:ai)(N:Nat)(d:aa->ae->O)(a b:aa)(H:ae):O:=ad (aL a) λe=>ad (ak P 248 e 3) λf=>ad (ah P H 31 f) λg=>ad (aF P 31 g b) λh=>ad (ah P H 30 h) λc=>aZ P .len [30] [c] H λi=>j_ G N d N a b c i (I J 0) H
def Ny(G:ai)(N:Nat)(a:aa->ae->O):∀C H,aE P G N (af (af (af (af (af (an (af (an (an (aG Tryz.f182)))))))))) (λC H=>a (C 0) H) [(1,(λC H=>a (C 0) H)),(0,(ay Tryz.f182))] (ay Tryz.f182) C H=j8 G N a (C 0) (C 2) H:=by
 refine aH ((aq j ((aT j ((a8 (k:=λm C H=>j_ G N a m (C 0) (C 2) (C 69) (C 70) (C 71) H) j (λC H=>j) (λm=>Nv G N a (j_ G N a m)))))) (aj _))) λC H=> ?_
 delta j8;generalize j_ G N a N=b;revert b;refine id ?_;intro b;kernel_rfl
def tU(G:ai)(N:Nat)(f:aa->ae->O)(g:aa->aa->aa->aa->aa->ae->O)(a b:aa)(d e c:aa)(H:ae):O:=ad (al P .lss 3 U c e) λi=>ax (D i) (ad (aF P 30 d c) λj=>ad (ah P H 3 j) λk=>au H (G 225 [a,b,k] H) λm h=>ad (al P .add 3 V c (I J 1)) λl=>g a b d e l h) (j8 G N f a b H)
def ka(G:ai)(N:Nat)(a:aa->ae->O):Nat->aa->aa->aa->aa->aa->ae->O
 |0,_,_,_,_,_,_=>Y
 |n+1,b,c,d,e,f,H=>tU G N a (ka G N a n) b c d e f H
def Nw(G:ai)(N:Nat)(a:aa->ae->O)(c:aa->aa->aa->aa->aa->ae->O):∀C H,aE P G N (an (an (af (an (af (af (af (af (an (af (an (an (aG Tryz.f182))))))))))))) (λC H=>c (C 0) (C 2) (C 52) (C 53) (C 54) H) [(2,(λC H=>j8 G N a (C 0) (C 2) H)),(1,(λC H=>a (C 0) H)),(0,(ay Tryz.f182))] (ay Tryz.f182) C H=tU G N a c (C 0) (C 2) (C 52) (C 53) (C 54) H:=by
 refine aH (aj _) λC H=> ?_
 delta tU;generalize j8 G N a=b;revert b;refine id ?_;intro b;kernel_rfl
def tS(G:ai)(N:Nat)(k:aa->ae->O)(b:aa)(H:ae):O:=ad (aL b) λaf=>ad (ak P 248 af 7) λl=>ad (ah P H 246 l) λm=>au H (G 223 [m] H) λn d=>ad (al P .gtr 3 V n (I J 0)) λo=>ax (D o) (ad (aL b) λp=>ad (ak P 248 p 7) λq=>ad (ej P 288 q) λr=>au d (G 224 [r] d) λs e=>ad (hp P 3 U s) λc=>ad (aL b) λt=>ad (ak P 248 t 8) λu=>ad (ah P e 104 u) λv=>ad (aF P 104 v c) λw=>aB e (aA P e 4 w (Z U)) λa=>ad (aL b) λx=>ad (ak P 248 x 2) λy=>ad (ah P a 243 y) λz=>ad (aF P 243 z c) λA=>ad (ah P a 251 A) λB=>ad (aL b) λC=>ad (ak P 248 C 5) λE=>ad (ah P a 243 E) λF=>ad (aF P 243 F c) λK=>ad (ah P a 251 K) λL=>ad (al P .andNot 251 U B L) λh=>ad (aL b) λM=>ad (ak P 248 M 5) λQ=>ad (ah P a 243 Q) λi=>ad (aF P 243 i c) λR=>ad (ah P a 251 R) λS=>ad (al P .or 251 U S h) λT=>ad (aF P 243 i c) λW=>aB a (aA P a 251 W T) λf=>au f (G 183 [h] f) λj g=>aZ P .len [30] [j] g λab=>ka G N k N b c j ab (I J 0) g) (D (.tuple [],d))
def j9(G:ai)(N:Nat):Nat->aa->ae->O
 |0,_,_=>Y
 |n+1,a,H=>tS G N (j9 G N n) a H
def Nu(G:ai)(N:Nat)(a:aa->ae->O):∀C H,aE P G N (an (an (aG Tryz.f182))) (λC H=>a (C 0) H) [(0,(ay Tryz.f182))] (ay Tryz.f182) C H=tS G N a (C 0) H:=by
 refine aH ((aq j ((aT j ((aq j ((aq j ((aq j ((aq j ((aq j (Ny G N a) ((aq j ((aT j ((a8 (k:=λm C H=>ka G N a m (C 0) (C 2) (C 52) (C 53) (C 54) H) j (λC H=>j) (λm=>Nw G N a (ka G N a m)))))) (aj _))))) (aj _))) (aj _))) (aj _))) (aj _))))) (aj _))) λC H=> ?_
 delta tS;generalize ka G N a N=b;revert b;refine id ?_;intro b;kernel_rfl
def o8(G:ai)(N:Nat)(a:aa)(H:ae):O:=j9 G N N a H
def Nx(G:ai)(N:Nat)(b:aa)(H:ae):aD Tryz.f182 G N (aP [b]) H=o8 G N b H:=by
 refine aS (A:=aD Tryz.f182 G N) ((aT j ((a8 (k:=λm C H=>j9 G N m (C 0) H) j (λC H=>j) (λm=>Nu G N (j9 G N m)))))) ?_;delta o8;generalize j9 G N N=a;revert a;refine id ?_;intro a;kernel_rfl
def gZ(G:ai)(N:Nat)(a:aa)(H:ae):O:=some (a,H)
def NB(G:ai)(N:Nat):∀C H,aE P G N (af (af (af (aG Tryz.f183)))) (ay Tryz.f183) [] (ay Tryz.f183) C H=gZ G N (C 3) H:=by
 refine aH (aj _) λC H=> ?_
 delta gZ;kernel_rfl
def kb(G:ai)(N:Nat)(a:aa->aa->aa->ae->O)(b d e:aa)(H:ae):O:=ad (al P .add 3 V e (I J 1)) λf=>ad (al P .shr 251 V b (I .u64 1)) λc=>a c d f H
def NC(G:ai)(N:Nat)(a:aa->aa->aa->ae->O):∀C H,aE P G N (af (af (an (an (af (an (af (af (aG Tryz.f183))))))))) (λC H=>a (C 0) (C 3) (C 4) H) [(0,(λC H=>gZ G N (C 3) H))] (ay Tryz.f183) C H=kb G N a (C 0) (C 3) (C 4) H:=by
 refine aH (aj _) λC H=> ?_
 delta kb;kernel_rfl
def tV(G:ai)(N:Nat)(d:aa->aa->aa->ae->O)(a b c:aa)(H:ae):O:=ad (al P .neq 251 V a (I .u64 0)) λk=>ax (D k) (ad (al P .and 251 V a (I .u64 1)) λg=>ad (al P .eql 251 V g (I .u64 1)) λh=>ax (D h) (aO H (bl P (H).next 30 1 [(0,c)]) λi e=>au e (bJ P e [30,30] b i) λj f=>kb G N d a j c f) (kb G N d a b c H)) (gZ G N b H)
def kc(G:ai)(N:Nat):Nat->aa->aa->aa->ae->O
 |0,_,_,_,_=>Y
 |n+1,a,b,c,H=>tV G N (kc G N n) a b c H
def Nz(G:ai)(N:Nat)(a:aa->aa->aa->ae->O):∀C H,aE P G N (an (an (af (an (af (af (aG Tryz.f183))))))) (λC H=>a (C 0) (C 3) (C 4) H) [(0,(λC H=>gZ G N (C 3) H))] (ay Tryz.f183) C H=tV G N a (C 0) (C 3) (C 4) H:=by
 refine aH ((aq j ((aq j (NC G N a) (aj _))) (aj _))) λC H=> ?_
 delta tV;generalize gZ G N=b;generalize kb G N a=c;revert b c;refine id ?_;intro b c;kernel_rfl
def o9(G:ai)(N:Nat)(a:aa)(H:ae):O:=kc G N N a aa.ar (I J 0) H
def NA(G:ai)(N:Nat)(b:aa)(H:ae):aD Tryz.f183 G N (aP [b]) H=o9 G N b H:=by
 refine aS (A:=aD Tryz.f183 G N) ((aq j ((aq j ((aq j (NB G N) ((aq j ((aT j ((a8 (k:=λm C H=>kc G N m (C 0) (C 3) (C 4) H) j (λC H=>j) (λm=>Nz G N (kc G N m)))))) (aj _))))) (aj _))) (aj _))) ?_;delta o9;generalize kc G N N=a;revert a;refine id ?_;intro a;kernel_rfl
def o_(G:ai)(a b j:aa)(H:ae):O:=ad (aL a) λk=>ad (ak P 248 k 0) λl=>ad (ah P H 3 l) λc=>ad (aL a) λd=>ad (ak P 248 d 1) λe=>ad (ah P H 3 e) λf=>ad (al P .mul 3 U b f) λg=>ad (al P .add 3 U c g) λh=>ad (al P .add 3 U h j) λi=>D (i,H)
def ND(G:ai)(N:Nat)(a:aa)(b:aa)(c:aa)(H:ae):aD Tryz.f184 G N (aP [a,b,c]) H=o_ G a b c H:=by
 refine aS (A:=aD Tryz.f184 G N) (aj _) ?_;delta o_;kernel_rfl
def pO(G:ai)(b a d:aa)(H:ae):O:=ad (aL b) λv=>ad (ak P 248 v 2) λw=>ad (ah P H 243 w) λx=>ad (aF P 243 x a) λg=>ad (ah P H 251 g) λh=>ad (al P .or 251 U h d) λi=>ad (aL b) λj=>ad (ak P 248 j 2) λk=>ad (ah P H 243 k) λl=>ad (aF P 243 l a) λm=>ad (ah P H 251 m) λn=>ad (al P .neq 251 U i n) λo=>ax (D o) (ad (aL b) λp=>ad (ak P 248 p 2) λq=>ad (ah P H 243 q) λe=>ad (aF P 243 e a) λr=>ad (ah P H 251 r) λs=>ad (al P .or 251 U s d) λt=>ad (aF P 243 e a) λu=>aB H (aA P H 251 u t) λc=>au c (G 181 [b,a] c) λy f=>D (.tuple [],f)) (D (.tuple [],H))
def PN(G:ai)(N:Nat)(a:aa)(b:aa)(c:aa)(H:ae):aD Tryz.f220 G N (aP [a,b,c]) H=pO G a b c H:=by
 refine aS (A:=aD Tryz.f220 G N) (aj _) ?_;delta pO;kernel_rfl
def pP(G:ai)(b c e:aa)(H:ae):O:=ad (aL b) λv=>ad (ak P 248 v 6) λw=>ad (ah P H 245 w) λx=>ad (bh P 312 [(0,c),(1,e)]) λy=>ad (dv P H 245 x y V) λq=>ad (bG q 0) λz=>ad (bG q 1) λi=>a7 H [] λan p=>aB p (aA P p 310 an z) λs=>ao i U s (aM c) λA t=>ao i U t (aM e) λB u=>ao i U u (az (al P .eql 3 U A B)) λC f=>ad (aN i (D (Z V)) (D C)) λE=>ax (D E) (D (.tuple [],f)) (ad (aL b) λF=>ad (ak P 248 F 6) λK=>ad (ah P f 245 K) λL=>ad (bh P 312 [(0,c),(1,e)]) λM=>aB f (eH P f 245 L M (.agg [])) λa=>ad (aL b) λQ=>ad (ak P 248 Q 3) λl=>ad (ah P a 31 l) λm=>ad (aF P 31 m c) λn=>ad (ah P a 30 n) λo=>aO a (bl P (a).next 30 1 [(0,e)]) λR d=>au d (bJ P d [30,30] o R) λS g=>ad (aL b) λN=>ad (ak P 248 N 3) λj=>ad (ah P g 31 j) λk=>ad (aF P 31 k c) λT=>aB g (aA P g 30 T S) λh=>bif ((aJ (ah P a 31 l) m&&(aJ (ah P d 31 l) m&&V))&&((aJ (ah P a 30 n) o&&(aJ (ah P d 30 n) o&&V))&&((aJ (ah P a 31 j) k&&(aJ (ah P d 31 j) k&&(aJ (ah P g 31 j) k&&V)))&&V)))then(ad (aL b) λW=>ad (ak P 248 W 2) λab=>ad (ah P h 243 ab) λaf=>ad (aF P 243 af c) λaj=>ad (ah P h 251 aj) λam=>au h (G 220 [b,e,am] h) λap r=>D (.tuple [],r))else Y)
def PO(G:ai)(N:Nat)(a:aa)(b:aa)(c:aa)(H:ae):aD Tryz.f221 G N (aP [a,b,c]) H=pP G a b c H:=by
 refine aS (A:=aD Tryz.f221 G N) (aj _) ?_;delta pP;kernel_rfl
def lr(G:ai)(N:Nat)(a:aa->aa->aa->aa->aa->ae->O)(b f:aa)(c d e:aa)(H:ae):O:=ad (al P .add 3 V e (I J 1)) λg=>a b f c d g H
def PW(G:ai)(N:Nat)(a:aa->aa->aa->aa->aa->ae->O):∀C H,aE P G N (af (af (af (an (an (af (aG Tryz.f225))))))) (λC H=>a (C 0) (C 2) (C 14) (C 15) (C 16) H) [(0,(ay Tryz.f225))] (ay Tryz.f225) C H=lr G N a (C 0) (C 2) (C 14) (C 15) (C 16) H:=by
 refine aH (aj _) λC H=> ?_
 delta lr;kernel_rfl
def uK(G:ai)(N:Nat)(n:aa->aa->aa->aa->aa->ae->O)(c f:aa)(h i e:aa)(H:ae):O:=ad (al P .lss 3 U e i) λp=>ax (D p) (ad (aF P 284 h e) λq=>ad (ah P H 286 q) λr=>a7 H [I J 0,I J 0,I J 0] λd o=>aB o (aA P o 286 d r) λa=>ad (ak P 286 d 0) λs=>ad (ah P a 3 s) λt=>ad (al P .eql 3 V t (I J 3)) λu=>ax (D u) (ad (ak P 286 d 2) λv=>ad (ah P a 3 v) λw=>au a (G 184 [c,f,w] a) λx b=>ad (ak P 286 d 1) λj=>ad (ah P b 3 j) λk=>au b (G 221 [c,x,k] b) λB g=>bif ((aJ (ah P a 3 j) k&&(aJ (ah P b 3 j) k&&V))&&V)then(lr G N n c f h i e g)else Y) (ad (ak P 286 d 2) λy=>ad (ah P a 3 y) λz=>au a (G 184 [c,f,z] a) λA b=>ad (ak P 286 d 1) λl=>ad (ah P b 3 l) λm=>au b (G 221 [c,m,A] b) λC g=>bif ((aJ (ah P a 3 l) m&&(aJ (ah P b 3 l) m&&V))&&V)then(lr G N n c f h i e g)else Y)) (D (.tuple [],H))
def lu(G:ai)(N:Nat):Nat->aa->aa->aa->aa->aa->ae->O
 |0,_,_,_,_,_,_=>Y
 |n+1,a,e,b,c,d,H=>uK G N (lu G N n) a e b c d H
def PU(G:ai)(N:Nat)(a:aa->aa->aa->aa->aa->ae->O):∀C H,aE P G N (an (an (af (aG Tryz.f225)))) (λC H=>a (C 0) (C 2) (C 14) (C 15) (C 16) H) [(0,(ay Tryz.f225))] (ay Tryz.f225) C H=uK G N a (C 0) (C 2) (C 14) (C 15) (C 16) H:=by
 refine aH ((aq j ((aq j ((aq j (PW G N a) (aj _))) (aj _))) (aj _))) λC H=> ?_
 delta uK;generalize lr G N a=b;revert b;refine id ?_;intro b;kernel_rfl
def pT(G:ai)(N:Nat)(a c h:aa)(H:ae):O:=ad (aL a) λi=>ad (ak P 248 i 4) λd=>ad (ah P H 244 d) λe=>ad (aF P 244 e c) λf=>ad (ah P H 284 f) λb=>aZ P .len [284] [b] H λg=>lu G N N a h b g (I J 0) H
def PV(G:ai)(N:Nat)(b:aa)(c:aa)(d:aa)(H:ae):aD Tryz.f225 G N (aP [b,c,d]) H=pT G N b c d H:=by
 refine aS (A:=aD Tryz.f225 G N) ((aq j ((aT j ((a8 (k:=λm C H=>lu G N m (C 0) (C 2) (C 14) (C 15) (C 16) H) j (λC H=>j) (λm=>PU G N (lu G N m)))))) (aj _))) ?_;delta pT;generalize lu G N N=a;revert a;refine id ?_;intro a;kernel_rfl
def pQ(G:ai)(a e:aa)(H:ae):O:=fi G H a "Push" [e] λi c=>fi G c a "Len" [] λg b=>ad (al P .sub 3 V g (I J 1)) λf=>au b (G 250 [a,f] b) λh d=>D (.tuple [],d)
def PR(G:ai)(N:Nat)(a:aa)(b:aa)(H:ae):aD Tryz.f222 G N (aP [a,b]) H=pQ G a b H:=by
 refine aS (A:=aD Tryz.f222 G N) (aj _) ?_;delta pQ;kernel_rfl
def pR(G:ai)(a:aa)(H:ae):O:=aZ P .len [246] [a] H λb=>D (b,H)
def PS(G:ai)(N:Nat)(a:aa)(H:ae):aD Tryz.f223 G N (aP [a]) H=pR G a H:=by
 refine aS (A:=aD Tryz.f223 G N) (aj _) ?_;delta pR;kernel_rfl
def pS(G:ai)(a:aa)(H:ae):O:=fi G H a "Len" [] λh d=>ad (al P .sub 3 V h (I J 1)) λc=>fi G d a "Swap" [I J 0,c] λj b=>au b (G 251 [a,I J 0,c] b) λi e=>fi G e a "Pop" [] λg f=>D (g,f)
def PT(G:ai)(N:Nat)(a:aa)(H:ae):aD Tryz.f224 G N (aP [a]) H=pS G a H:=by
 refine aS (A:=aD Tryz.f224 G N) (aj _) ?_;delta pS;kernel_rfl
def uR(G:ai)(N:Nat)(g:aa->aa->ae->O)(e c:aa)(H:ae):O:=ad (al P .sub 3 V c (I J 1)) λt=>ad (al P .quo 3 V t (I J 2)) λd=>ad (al P .eql 3 U d c) λa=>ao a U H (aM e) λl h=>ao a U h (aM c) λm i=>ao a U i (aM d) λn b=>ao a U b (λq=>(hM P b l "Less" [m,n]).bind λp=>bg b (G p.1 p.2 b) q) λo j=>ao a U j (az (bt .not o)) λr f=>ad (aN a (D (Z V)) (D r)) λs=>ax (D s) (D (.tuple [],f)) (fi G f e "Swap" [d,c] λu k=>g e d k)
def lR(G:ai)(N:Nat):Nat->aa->aa->ae->O
 |0,_,_,_=>Y
 |n+1,a,b,H=>uR G N (lR G N n) a b H
def QQ(G:ai)(N:Nat)(a:aa->aa->ae->O):∀C H,aE P G N (an (an (aG Tryz.f250))) (λC H=>a (C 0) (C 1) H) [(0,(ay Tryz.f250))] (ay Tryz.f250) C H=uR G N a (C 0) (C 1) H:=by
 refine aH (aj _) λC H=> ?_
 delta uR;kernel_rfl
def qh(G:ai)(N:Nat)(a b:aa)(H:ae):O:=lR G N N a b H
def QS(G:ai)(N:Nat)(b:aa)(c:aa)(H:ae):aD Tryz.f250 G N (aP [b,c]) H=qh G N b c H:=by
 refine aS (A:=aD Tryz.f250 G N) ((aT j ((a8 (k:=λm C H=>lR G N m (C 0) (C 1) H) j (λC H=>j) (λm=>QQ G N (lR G N m)))))) ?_;delta qh;generalize lR G N N=a;revert a;refine id ?_;intro a;kernel_rfl
def e7(G:ai)(N:Nat)(a c:aa)(H:ae):O:=ad (al P .gtr 3 U c a) λb=>D (b,H)
def QV(G:ai)(N:Nat):∀C H,aE P G N (af (af (af (aG Tryz.f251)))) (ay Tryz.f251) [] (ay Tryz.f251) C H=e7 G N (C 1) (C 7) H:=by
 refine aH (aj _) λC H=> ?_
 delta e7;kernel_rfl
def lS(G:ai)(N:Nat)(f:aa->aa->aa->aa->ae->O)(a e:aa)(h b c:aa)(H:ae):O:=fi G H a "Less" [c,b] λi d=>ad (bt .not i) λj=>ax (D j) (e7 G N e b d) (fi G d a "Swap" [b,c] λk g=>f a e h c g)
def QW(G:ai)(N:Nat)(a:aa->aa->aa->aa->ae->O):∀C H,aE P G N (af (af (af (af (an (an (an (an (af (af (aG Tryz.f251))))))))))) (λC H=>a (C 0) (C 1) (C 2) (C 7) H) [(1,(λC H=>a (C 0) (C 1) (C 2) (C 7) H)),(0,(λC H=>e7 G N (C 1) (C 7) H))] (ay Tryz.f251) C H=lS G N a (C 0) (C 1) (C 2) (C 7) (C 9) H:=by
 refine aH (aj _) λC H=> ?_
 delta lS;generalize e7 G N=b;revert b;refine id ?_;intro b;kernel_rfl
def uS(G:ai)(N:Nat)(j:aa->aa->aa->aa->ae->O)(f g:aa)(d e:aa)(H:ae):O:=ad (al P .mul 3 V (I J 2) e) λr=>ad (al P .add 3 V r (I J 1)) λa=>ad (al P .geq 3 U a d) λh=>ao h U H (aM a) λs m=>ao h U m (az (al P .lss 3 V s (I J 0))) λt k=>ad (aN h (D (Z V)) (D t)) λu=>ax (D u) (e7 G N g e k) (ad (al P .add 3 V a (I J 1)) λi=>ad (al P .lss 3 U i d) λb=>ao b V k (aM f) λv n=>ao b V n (aM i) λw o=>ao b V o (aM a) λx c=>ao b V c (λq=>(hM P c v "Less" [w,x]).bind λp=>bg c (G p.1 p.2 c) q) λy l=>ad (aN b (D y) (D (Z U))) λz=>ax (D z) (lS G N j f g d e i l) (lS G N j f g d e a l))
def lT(G:ai)(N:Nat):Nat->aa->aa->aa->aa->ae->O
 |0,_,_,_,_,_=>Y
 |n+1,a,b,c,d,H=>uS G N (lT G N n) a b c d H
def QT(G:ai)(N:Nat)(a:aa->aa->aa->aa->ae->O):∀C H,aE P G N (an (an (an (af (af (aG Tryz.f251)))))) (λC H=>a (C 0) (C 1) (C 2) (C 7) H) [(0,(λC H=>e7 G N (C 1) (C 7) H))] (ay Tryz.f251) C H=uS G N a (C 0) (C 1) (C 2) (C 7) H:=by
 refine aH ((aT j ((aq j ((aq j ((aq j ((aq j (QW G N a) (aj _))) (aj _))) (aj _))) (aj _))))) λC H=> ?_
 delta uS;generalize lS G N a=b;generalize e7 G N=c;revert b c;refine id ?_;intro b c;kernel_rfl
def qi(G:ai)(N:Nat)(b a c:aa)(H:ae):O:=lT G N N b a c a H
def QU(G:ai)(N:Nat)(b:aa)(c:aa)(d:aa)(H:ae):aD Tryz.f251 G N (aP [b,c,d]) H=qi G N b c d H:=by
 refine aS (A:=aD Tryz.f251 G N) ((aq j ((aq j ((aq j (QV G N) ((aT j ((a8 (k:=λm C H=>lT G N m (C 0) (C 1) (C 2) (C 7) H) j (λC H=>j) (λm=>QT G N (lT G N m)))))))) (aj _))) (aj _))) ?_;delta qi;generalize lT G N N=a;revert a;refine id ?_;intro a;kernel_rfl
def qx(G:ai)(a b g:aa)(H:ae):O:=ad (aF P 246 a b) λh=>ad (ah P H 3 h) λc=>ad (aF P 246 a g) λd=>ad (ah P H 3 d) λe=>ad (al P .lss 3 U c e) λf=>D (f,H)
def Rq(G:ai)(N:Nat)(a:aa)(b:aa)(c:aa)(H:ae):aD Tryz.f281 G N (aP [a,b,c]) H=qx G a b c H:=by
 refine aS (A:=aD Tryz.f281 G N) (aj _) ?_;delta qx;kernel_rfl
def qy(G:ai)(a c d:aa)(H:ae):O:=ad (aF P 246 a d) λf=>ad (ah P H 3 f) λg=>ad (aF P 246 a c) λh=>ad (ah P H 3 h) λi=>ad (aF P 246 a c) λj=>aB H (aA P H 3 j g) λb=>ad (aF P 246 a d) λk=>aB b (aA P b 3 k i) λe=>D (.tuple [],e)
def Rr(G:ai)(N:Nat)(a:aa)(b:aa)(c:aa)(H:ae):aD Tryz.f282 G N (aP [a,b,c]) H=qy G a b c H:=by
 refine aS (A:=aD Tryz.f282 G N) (aj _) ?_;delta qy;kernel_rfl
def qz(G:ai)(b:aa)(H:ae):O:=ad (aL b) λm=>ad (ah P H 246 m) λa=>aZ P .len [246] [a] H λd=>ad (al P .sub 3 V d (I J 1)) λe=>ad (aF P 246 a e) λf=>ad (ah P H 3 f) λg=>aZ P .len [246] [a] H λh=>ad (al P .sub 3 V h (I J 1)) λi=>ad (c1 P 246 a Y (D i) Y) λj=>ad (aL b) λk=>aB H (aA P H 246 k j) λc=>ad (ej P 3 g) λl=>D (l,c)
def Rs(G:ai)(N:Nat)(a:aa)(H:ae):aD Tryz.f283 G N (aP [a]) H=qz G a H:=by
 refine aS (A:=aD Tryz.f283 G N) (aj _) ?_;delta qz;kernel_rfl
def qA(G:ai)(e g:aa)(H:ae):O:=ad (aL e) λb=>ad (ah P H 246 b) λc=>ad (hp P 3 U g) λk=>aO H (bl P (H).next 246 1 [(0,k)]) λh a=>au a (bJ P a [246,246] c h) λi d=>ad (aL e) λj=>aB d (aA P d 246 j i) λf=>bif ((aJ (ah P H 246 b) c&&(aJ (ah P a 246 b) c&&V))&&V)then(D (.tuple [],f))else Y
def Rt(G:ai)(N:Nat)(a:aa)(b:aa)(H:ae):aD Tryz.f284 G N (aP [a,b]) H=qA G a b H:=by
 refine aS (A:=aD Tryz.f284 G N) (aj _) ?_;delta qA;kernel_rfl
