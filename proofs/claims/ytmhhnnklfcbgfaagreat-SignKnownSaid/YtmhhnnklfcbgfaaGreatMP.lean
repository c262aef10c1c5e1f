/-
  Texts of one proof, laid together: ShS.
-/
import Derived.Test.YtmhhnnklfcbgfaaGreatME
set_option linter.unusedVariables false
set_option linter.unusedSimpArgs false
set_option linter.defProp false
open Option renaming some→D,none→Y
open Bool renaming true→V,false→U
open Go.bN.aa renaming int→I,str→X,bool→Z
open Go.IntKind renaming i64→J
namespace Go.Proofs.YtmhhnnklfcbgfaaGreat
open Go.bN
set_option maxRecDepth 100000
noncomputable section
def rk(G:ai)(b:aa)(H:ae):O:=aZ P .len [30] [b] H λc=>ec P 3 217 c H λe=>au H (G 145 [e] H) λf a=>au a (G 144 [b,I J 0,c,f] a) λg d=>D (.tuple [],d)
def Tk(G:ai)(N:Nat)(a:aa)(H:ae):aD Tryz.f96 G N (aP [a]) H=rk G a H:=by
 refine aS (A:=aD Tryz.f96 G N) (aj _) ?_;delta rk;kernel_rfl
def jl(G:ai)(N:Nat)(t:aa->aa->aa->aa->aa->aa->ae->O)(j l:aa)(r s:aa)(Q R:aa)(C v:aa)(H:ae):O:=ad (al P .gtr 3 V l (I J 0)) λa=>aK a V (aM j) λc=>aK a V (aM l) λd=>aK a V (az (al P .sub 3 V d.val (I J 1))) λe=>aK a V (az (aF P 30 c.val e.val)) λb=>aK a V (qr (ah P (b.heap (e.heap (d.heap (c.heap H)))) 3 b.val)) λg=>aK a V (aM j) λh=>aK a V (aM v) λi=>aK a V (az (aF P 30 h.val i.val)) λf=>aK a V (qr (ah P (f.heap (i.heap (h.heap (g.heap (b.heap (e.heap (d.heap (c.heap H)))))))) 3 f.val)) λk=>aK a V (λq=>bg (k.heap (f.heap (i.heap (h.heap (g.heap (b.heap (e.heap (d.heap (c.heap H))))))))) (G 201 [g.val,k.val] (k.heap (f.heap (i.heap (h.heap (g.heap (b.heap (e.heap (d.heap (c.heap H)))))))))) q) λo=>aK a V (az (bt .not o.val)) λn=>ad (aN a (D n.val) (D (Z U))) λA=>bif b3 [0,1,3,7,7,23,63,127,7,7,775,1799,4095,8191,16383] [0,1,2,3,4,5,6,7,8,9,10,11,12,13,14] [⟨0,.pure l,λH=>Y⟩,⟨1,.pure a,λH=>Y⟩,⟨2,.pure a,λH=>Y⟩,⟨3,c,λH=>Y⟩,⟨4,d,λH=>Y⟩,⟨5,e,λH=>Y⟩,⟨6,b,λH=>Y⟩,⟨7,g,λH=>ah P H 3 b.val⟩,⟨8,h,λH=>Y⟩,⟨9,i,λH=>Y⟩,⟨10,f,λH=>Y⟩,⟨11,k,λH=>ah P H 3 f.val⟩,⟨12,o,λH=>Y⟩,⟨13,n,λH=>Y⟩,⟨14,.pure A,λH=>Y⟩] H then(ax (D A) (au (n.heap (o.heap (k.heap (f.heap (i.heap (h.heap (g.heap (b.heap (e.heap (d.heap (c.heap H))))))))))) (G 202 [j,l,r,v] (n.heap (o.heap (k.heap (f.heap (i.heap (h.heap (g.heap (b.heap (e.heap (d.heap (c.heap H)))))))))))) λS m=>t j S r s Q R m) (au (n.heap (o.heap (k.heap (f.heap (i.heap (h.heap (g.heap (b.heap (e.heap (d.heap (c.heap H))))))))))) (G 203 [j,l,r,v] (n.heap (o.heap (k.heap (f.heap (i.heap (h.heap (g.heap (b.heap (e.heap (d.heap (c.heap H)))))))))))) λB m=>ad (bG B 0) λp=>ad (bG B 1) λw=>ad (al P .sub 3 U p l) λx=>ad (al P .sub 3 U r p) λy=>ad (al P .quo 3 V C (I J 8)) λz=>ad (al P .lss 3 U x y) λE=>ax (D E) (ad (al P .geq 3 U x z) λF=>au m (G 144 [j,l,p,s] m) λT u=>ad (al P .add 3 V p (I J 1)) λK=>t j K r s F w u) (ad (al P .geq 3 U y z) λL=>ad (al P .add 3 V p (I J 1)) λM=>au m (G 144 [j,M,r,s] m) λW u=>t j l p s L w u)))else Y
def LX(G:ai)(N:Nat)(a:aa->aa->aa->aa->aa->aa->ae->O):∀C H,aE P G N (af (af (af (af (af (af (af (an (an (an (af (af (aG Tryz.f144))))))))))))) (λC H=>a (C 0) (C 1) (C 2) (C 3) (C 8) (C 9) H) [(1,(λC H=>a (C 0) (C 1) (C 2) (C 3) (C 8) (C 9) H)),(0,(ay Tryz.f144))] (ay Tryz.f144) C H=jl G N a (C 0) (C 1) (C 2) (C 3) (C 8) (C 9) (C 10) (C 11) H:=by
 refine aH (aj _) λC H=> ?_
 delta jl;kernel_rfl
def jj(G:ai)(N:Nat)(h:aa->aa->aa->aa->aa->aa->ae->O)(c d:aa)(e l:aa)(a g:aa)(j k o:aa)(H:ae):O:=ao a V H (aM g) λp m=>ad (aN a (D p) (D (Z U))) λf=>ao f V m (aM o) λq n=>ao f V n (az (al P .eql 264 V q (I J 1))) λr b=>ad (aN f (D r) (D (Z U))) λs=>ax (D s) (au b (G 200 [c,d,e] b) λt i=>ax (D t) (D (.tuple [],i)) (jl G N h c d e l a g j k i)) (jl G N h c d e l a g j k b)
def LW(G:ai)(N:Nat)(a:aa->aa->aa->aa->aa->aa->ae->O):∀C H,aE P G N (af (af (af (af (af (af (an (an (an (af (af (aG Tryz.f144)))))))))))) (λC H=>a (C 0) (C 1) (C 2) (C 3) (C 8) (C 9) H) [(1,(λC H=>a (C 0) (C 1) (C 2) (C 3) (C 8) (C 9) H)),(0,(ay Tryz.f144))] (ay Tryz.f144) C H=jj G N a (C 0) (C 1) (C 2) (C 3) (C 8) (C 9) (C 10) (C 11) (C 12) H:=by
 refine aH ((aq j (LX G N a) (aj _))) λC H=> ?_
 delta jj;generalize jl G N a=b;revert b;refine id ?_;intro b;kernel_rfl
def ji(G:ai)(N:Nat)(e:aa->aa->aa->aa->aa->aa->ae->O)(c a:aa)(b g:aa)(k l f:aa)(H:ae):O:=au H (G 198 [c,a,b] H) λh d=>ad (bG h 0) λi=>ad (bG h 1) λj=>ad (al P .eql 264 V j (I J 2)) λn=>ax (D n) (au d (G 199 [c,a,b] d) λr m=>ad (al P .sub 3 V b (I J 1)) λo=>ad (al P .sub 3 U i a) λp=>ad (al P .sub 3 U o p) λq=>jj G N e c a b g k l f q (I J 1) m) (jj G N e c a b g k l f i j d)
def LV(G:ai)(N:Nat)(a:aa->aa->aa->aa->aa->aa->ae->O):∀C H,aE P G N (af (af (af (af (an (an (an (af (af (aG Tryz.f144)))))))))) (λC H=>a (C 0) (C 1) (C 2) (C 3) (C 8) (C 9) H) [(1,(λC H=>a (C 0) (C 1) (C 2) (C 3) (C 8) (C 9) H)),(0,(ay Tryz.f144))] (ay Tryz.f144) C H=ji G N a (C 0) (C 1) (C 2) (C 3) (C 8) (C 9) (C 10) H:=by
 refine aH ((aq j ((aq j (LW G N a) (aj _))) (aj _))) λC H=> ?_
 delta ji;generalize jj G N a=b;revert b;refine id ?_;intro b;kernel_rfl
def tz(G:ai)(N:Nat)(h:aa->aa->aa->aa->aa->aa->ae->O)(d a:aa)(b f:aa)(g i:aa)(H:ae):O:=ad (al P .sub 3 U b a) λe=>ad (al P .leq 3 V e (I J 12)) λj=>ax (D j) (au H (G 195 [d,a,b] H) λn c=>D (.tuple [],c)) (ad (al P .eql 3 V f (I J 0)) λk=>ax (D k) (au H (G 196 [d,a,b] H) λo c=>D (.tuple [],c)) (ad (bt .not g) λl=>ax (D l) (au H (G 197 [d,a,b] H) λp c=>ad (al P .sub 3 V f (I J 1)) λm=>ji G N h d a b m g i e c) (ji G N h d a b f g i e H)))
def jm(G:ai)(N:Nat):Nat->aa->aa->aa->aa->aa->aa->ae->O
 |0,_,_,_,_,_,_,_=>Y
 |n+1,a,b,c,d,e,f,H=>tz G N (jm G N n) a b c d e f H
def LS(G:ai)(N:Nat)(a:aa->aa->aa->aa->aa->aa->ae->O):∀C H,aE P G N (an (an (af (af (aG Tryz.f144))))) (λC H=>a (C 0) (C 1) (C 2) (C 3) (C 8) (C 9) H) [(0,(ay Tryz.f144))] (ay Tryz.f144) C H=tz G N a (C 0) (C 1) (C 2) (C 3) (C 8) (C 9) H:=by
 refine aH ((aT j ((aq j ((aq j ((aq j ((aq j (LV G N a) (aj _))) (aj _))) (aj _))) (aj _))))) λC H=> ?_
 delta tz;generalize ji G N a=b;revert b;refine id ?_;intro b;kernel_rfl
def ow(G:ai)(N:Nat)(a b:aa)(c d:aa)(H:ae):O:=jm G N N a b c d (Z V) (Z V) H
def LU(G:ai)(N:Nat)(b:aa)(c:aa)(d:aa)(e:aa)(H:ae):aD Tryz.f144 G N (aP [b,c,d,e]) H=ow G N b c d e H:=by
 refine aS (A:=aD Tryz.f144 G N) ((aq j ((aq j ((aT j ((a8 (k:=λm C H=>jm G N m (C 0) (C 1) (C 2) (C 3) (C 8) (C 9) H) j (λC H=>j) (λm=>LS G N (jm G N m)))))) (aj _))) (aj _))) ?_;delta ow;generalize jm G N N=a;revert a;refine id ?_;intro a;kernel_rfl
def g2(G:ai)(N:Nat)(a:aa->aa->aa->aa->ae->O)(b c:aa)(e f:aa)(H:ae):O:=ad (al P .add 3 V f (I J 1)) λd=>a b c e d H
def Oe(G:ai)(N:Nat)(a:aa->aa->aa->aa->ae->O):∀C H,aE P G N (af (af (an (an (af (aG Tryz.f195)))))) (λC H=>a (C 0) (C 1) (C 2) (C 6) H) [(0,(ay Tryz.f195))] (ay Tryz.f195) C H=g2 G N a (C 0) (C 1) (C 2) (C 6) H:=by
 refine aH (aj _) λC H=> ?_
 delta g2;kernel_rfl
def ug(G:ai)(N:Nat)(t:aa->aa->aa->aa->ae->O)(u:aa->aa->aa->aa->aa->ae->O)(l n:aa)(p s k:aa)(H:ae):O:=ad (al P .gtr 3 U k n) λa=>aK a V (aM l) λc=>aK a V (aM k) λd=>aK a V (az (aF P 30 c.val d.val)) λb=>aK a V (qr (ah P (b.heap (d.heap (c.heap H))) 3 b.val)) λf=>aK a V (aM l) λg=>aK a V (aM k) λh=>aK a V (az (al P .sub 3 V h.val (I J 1))) λi=>aK a V (az (aF P 30 g.val i.val)) λe=>aK a V (qr (ah P (e.heap (i.heap (h.heap (g.heap (f.heap (b.heap (d.heap (c.heap H)))))))) 3 e.val)) λj=>aK a V (λq=>bg (j.heap (e.heap (i.heap (h.heap (g.heap (f.heap (b.heap (d.heap (c.heap H))))))))) (G 201 [f.val,j.val] (j.heap (e.heap (i.heap (h.heap (g.heap (f.heap (b.heap (d.heap (c.heap H)))))))))) q) λm=>ad (aN a (D m.val) (D (Z U))) λr=>bif b3 [0,0,3,7,15,15,63,127,15,15,527,1807,3855,8191,16383] [0,1,2,3,4,5,6,7,8,9,10,11,12,13,14] [⟨0,.pure k,λH=>Y⟩,⟨1,.pure n,λH=>Y⟩,⟨2,.pure a,λH=>Y⟩,⟨3,.pure a,λH=>Y⟩,⟨4,c,λH=>Y⟩,⟨5,d,λH=>Y⟩,⟨6,b,λH=>Y⟩,⟨7,f,λH=>ah P H 3 b.val⟩,⟨8,g,λH=>Y⟩,⟨9,h,λH=>Y⟩,⟨10,i,λH=>Y⟩,⟨11,e,λH=>Y⟩,⟨12,j,λH=>ah P H 3 e.val⟩,⟨13,m,λH=>Y⟩,⟨14,.pure r,λH=>Y⟩] H then(ax (D r) (ad (al P .sub 3 V k (I J 1)) λy=>ad (aF P 30 l y) λz=>ad (ah P (m.heap (j.heap (e.heap (i.heap (h.heap (g.heap (f.heap (b.heap (d.heap (c.heap H)))))))))) 3 z) λA=>ad (aF P 30 l k) λB=>ad (ah P (m.heap (j.heap (e.heap (i.heap (h.heap (g.heap (f.heap (b.heap (d.heap (c.heap H)))))))))) 3 B) λC=>ad (aF P 30 l k) λE=>aB (m.heap (j.heap (e.heap (i.heap (h.heap (g.heap (f.heap (b.heap (d.heap (c.heap H)))))))))) (aA P (m.heap (j.heap (e.heap (i.heap (h.heap (g.heap (f.heap (b.heap (d.heap (c.heap H)))))))))) 3 E A) λo=>ad (al P .sub 3 V k (I J 1)) λx=>ad (aF P 30 l x) λF=>aB o (aA P o 3 F C) λv=>ad (al P .sub 3 V k (I J 1)) λw=>u l n p s w v) (g2 G N t l n p s (m.heap (j.heap (e.heap (i.heap (h.heap (g.heap (f.heap (b.heap (d.heap (c.heap H))))))))))))else Y
def ky(G:ai)(N:Nat)(a:aa->aa->aa->aa->ae->O):Nat->aa->aa->aa->aa->aa->ae->O
 |0,_,_,_,_,_,_=>Y
 |n+1,b,c,d,e,f,H=>ug G N a (ky G N a n) b c d e f H
def Oc(G:ai)(N:Nat)(a:aa->aa->aa->aa->ae->O)(c:aa->aa->aa->aa->aa->ae->O):∀C H,aE P G N (an (an (af (an (an (af (an (an (af (aG Tryz.f195)))))))))) (λC H=>c (C 0) (C 1) (C 2) (C 6) (C 7) H) [(2,(λC H=>g2 G N a (C 0) (C 1) (C 2) (C 6) H)),(1,(λC H=>g2 G N a (C 0) (C 1) (C 2) (C 6) H)),(0,(ay Tryz.f195))] (ay Tryz.f195) C H=ug G N a c (C 0) (C 1) (C 2) (C 6) (C 7) H:=by
 refine aH (aj _) λC H=> ?_
 delta ug;generalize g2 G N a=b;revert b;refine id ?_;intro b;kernel_rfl
def uf(G:ai)(N:Nat)(c:aa->aa->aa->aa->ae->O)(d e:aa)(b a:aa)(H:ae):O:=ad (al P .lss 3 U a b) λf=>ax (D f) (ky G N c N d e b a a H) (D (.tuple [],H))
def kx(G:ai)(N:Nat):Nat->aa->aa->aa->aa->ae->O
 |0,_,_,_,_,_=>Y
 |n+1,a,b,c,d,H=>uf G N (kx G N n) a b c d H
def Ob(G:ai)(N:Nat)(a:aa->aa->aa->aa->ae->O):∀C H,aE P G N (an (an (af (aG Tryz.f195)))) (λC H=>a (C 0) (C 1) (C 2) (C 6) H) [(0,(ay Tryz.f195))] (ay Tryz.f195) C H=uf G N a (C 0) (C 1) (C 2) (C 6) H:=by
 refine aH ((aq j ((aq j (Oe G N a) ((aT j ((aq j ((aT j ((a8 (k:=λm C H=>ky G N a m (C 0) (C 1) (C 2) (C 6) (C 7) H) j (λC H=>j) (λm=>Oc G N a (ky G N a m)))))) (aj _))))))) (aj _))) λC H=> ?_
 delta uf;generalize ky G N a N=b;revert b;refine id ?_;intro b;kernel_rfl
def ph(G:ai)(N:Nat)(b a c:aa)(H:ae):O:=ad (al P .add 3 V a (I J 1)) λd=>kx G N N b a c d H
def Od(G:ai)(N:Nat)(b:aa)(c:aa)(d:aa)(H:ae):aD Tryz.f195 G N (aP [b,c,d]) H=ph G N b c d H:=by
 refine aS (A:=aD Tryz.f195 G N) ((aq j ((aT j ((a8 (k:=λm C H=>kx G N m (C 0) (C 1) (C 2) (C 6) H) j (λC H=>j) (λm=>Ob G N (kx G N m)))))) (aj _))) ?_;delta ph;generalize kx G N N=a;revert a;refine id ?_;intro a;kernel_rfl
def uh(G:ai)(N:Nat)(g:aa->aa->aa->aa->ae->O)(a b:aa)(f c:aa)(H:ae):O:=ad (al P .geq 3 V c (I J 0)) λi=>ax (D i) (ad (al P .add 3 U b c) λl=>ad (aF P 30 a l) λm=>ad (ah P H 3 m) λn=>ad (aF P 30 a b) λo=>ad (ah P H 3 o) λp=>ad (aF P 30 a b) λq=>aB H (aA P H 3 q n) λd=>ad (al P .add 3 U b c) λk=>ad (aF P 30 a k) λr=>aB d (aA P d 3 r p) λe=>au e (G 229 [a,f,c,b] e) λs h=>ad (al P .sub 3 V c (I J 1)) λj=>g a b f j h) (D (.tuple [],H))
def kA(G:ai)(N:Nat):Nat->aa->aa->aa->aa->ae->O
 |0,_,_,_,_,_=>Y
 |n+1,a,c,d,b,H=>uh G N (kA G N n) a c d b H
def Of(G:ai)(N:Nat)(a:aa->aa->aa->aa->ae->O):∀C H,aE P G N (an (an (af (af (af (af (af (aG Tryz.f196)))))))) (λC H=>a (C 0) (C 6) (C 7) (C 10) H) [(2,(ay Tryz.f196))] (ay Tryz.f196) C H=uh G N a (C 0) (C 6) (C 7) (C 10) H:=by
 refine aH (aj _) λC H=> ?_
 delta uh;kernel_rfl
def kz(G:ai)(N:Nat)(a c:aa)(d e:aa)(H:ae):O:=ad (al P .sub 3 V e (I J 1)) λb=>kA G N N a c d b H
def Oi(G:ai)(N:Nat):∀C H,aE P G N (af (af (af (af (aG Tryz.f196))))) (ay Tryz.f196) [] (ay Tryz.f196) C H=kz G N (C 0) (C 6) (C 7) (C 8) H:=by
 refine aH ((aq j ((aT j ((a8 (k:=λm C H=>kA G N m (C 0) (C 6) (C 7) (C 10) H) j (λC H=>j) (λm=>Of G N (kA G N m)))))) (aj _))) λC H=> ?_
 delta kz;generalize kA G N N=a;revert a;refine id ?_;intro a;kernel_rfl
def ui(G:ai)(N:Nat)(f:aa->aa->aa->aa->aa->ae->O)(a b:aa)(e c d:aa)(H:ae):O:=ad (al P .geq 3 V d (I J 0)) λh=>ax (D h) (au H (G 229 [a,d,c,b] H) λj g=>ad (al P .sub 3 V d (I J 1)) λi=>f a b e c i g) (kz G N a b e c H)
def kB(G:ai)(N:Nat):Nat->aa->aa->aa->aa->aa->ae->O
 |0,_,_,_,_,_,_=>Y
 |n+1,a,b,c,d,e,H=>ui G N (kB G N n) a b c d e H
def Og(G:ai)(N:Nat)(b:aa->aa->aa->aa->aa->ae->O):∀C H,aE P G N (an (an (af (an (af (af (af (aG Tryz.f196)))))))) (λC H=>b (C 0) (C 6) (C 7) (C 8) (C 9) H) [(0,(λC H=>kz G N (C 0) (C 6) (C 7) (C 8) H))] (ay Tryz.f196) C H=ui G N b (C 0) (C 6) (C 7) (C 8) (C 9) H:=by
 refine aH (aj _) λC H=> ?_
 delta ui;generalize kz G N=a;revert a;refine id ?_;intro a;kernel_rfl
def pj(G:ai)(N:Nat)(c a f:aa)(H:ae):O:=ad (al P .sub 3 U f a) λb=>ad (al P .sub 3 V b (I J 1)) λd=>ad (al P .quo 3 V d (I J 2)) λe=>kB G N N c a (I J 0) b e H
def Oh(G:ai)(N:Nat)(b:aa)(c:aa)(d:aa)(H:ae):aD Tryz.f196 G N (aP [b,c,d]) H=pj G N b c d H:=by
 refine aS (A:=aD Tryz.f196 G N) ((aq j ((aq j ((aq j ((aq j (Oi G N) ((aq j ((aT j ((a8 (k:=λm C H=>kB G N m (C 0) (C 6) (C 7) (C 8) (C 9) H) j (λC H=>j) (λm=>Og G N (kB G N m)))))) (aj _))))) (aj _))) (aj _))) (aj _))) ?_;delta pj;generalize kB G N N=a;revert a;refine id ?_;intro a;kernel_rfl
def g3(G:ai)(N:Nat)(a:aa->aa->aa->aa->aa->aa->ae->O)(b c:aa)(e f:aa)(g h:aa)(H:ae):O:=ad (al P .add 3 V h (I J 1)) λd=>a b c e f g d H
def Om(G:ai)(N:Nat)(a:aa->aa->aa->aa->aa->aa->ae->O):∀C H,aE P G N (af (af (an (an (af (af (af (an (af (af (aG Tryz.f197))))))))))) (λC H=>a (C 0) (C 1) (C 6) (C 7) (C 8) (C 9) H) [(0,(ay Tryz.f197))] (ay Tryz.f197) C H=g3 G N a (C 0) (C 1) (C 6) (C 7) (C 8) (C 9) H:=by
 refine aH (aj _) λC H=> ?_
 delta g3;kernel_rfl
def kC(G:ai)(N:Nat)(f:aa->aa->aa->aa->aa->aa->ae->O)(a b:aa)(l q:aa)(r c e:aa)(H:ae):O:=ad (al P .add 3 U b e) λi=>ad (aF P 30 a i) λj=>ad (ah P H 3 j) λk=>ad (aF P 30 a c) λm=>ad (ah P H 3 m) λn=>ad (aF P 30 a c) λo=>aB H (aA P H 3 o k) λd=>ad (al P .add 3 U b e) λh=>ad (aF P 30 a h) λp=>aB d (aA P d 3 p n) λg=>g3 G N f a b l q r c g
def On(G:ai)(N:Nat)(a:aa->aa->aa->aa->aa->aa->ae->O):∀C H,aE P G N (af (af (an (an (af (an (an (af (af (af (an (af (af (aG Tryz.f197)))))))))))))) (λC H=>g3 G N a (C 0) (C 1) (C 6) (C 7) (C 8) (C 9) H) [(1,(λC H=>g3 G N a (C 0) (C 1) (C 6) (C 7) (C 8) (C 9) H)),(0,(ay Tryz.f197))] (ay Tryz.f197) C H=kC G N a (C 0) (C 1) (C 6) (C 7) (C 8) (C 9) (C 10) H:=by
 refine aH (aj _) λC H=> ?_
 delta kC;generalize g3 G N a=b;revert b;refine id ?_;intro b;kernel_rfl
def uj(G:ai)(N:Nat)(h:aa->aa->aa->aa->aa->aa->ae->O)(i c:aa)(a e:aa)(f g:aa)(H:ae):O:=ad (al P .quo 3 V a (I J 4)) λj=>ad (al P .mul 3 V j (I J 2)) λk=>ad (al P .add 3 U c k) λl=>ad (al P .add 3 V l (I J 1)) λm=>ad (al P .leq 3 U g m) λn=>ax (D n) (au H (G 231 [e] H) λo b=>ad (al P .sub 217 V f (I .u64 1)) λp=>ad (al P .and 217 U o p) λq=>ec P 217 3 q b λd=>ad (al P .geq 3 U d a) λr=>ax (D r) (ad (al P .sub 3 U d a) λs=>kC G N h i c a e f g s b) (kC G N h i c a e f g d b)) (D (.tuple [],H))
def kD(G:ai)(N:Nat):Nat->aa->aa->aa->aa->aa->aa->ae->O
 |0,_,_,_,_,_,_,_=>Y
 |n+1,a,b,c,d,e,f,H=>uj G N (kD G N n) a b c d e f H
def Oj(G:ai)(N:Nat)(a:aa->aa->aa->aa->aa->aa->ae->O):∀C H,aE P G N (an (an (af (af (af (an (af (af (aG Tryz.f197))))))))) (λC H=>a (C 0) (C 1) (C 6) (C 7) (C 8) (C 9) H) [(0,(ay Tryz.f197))] (ay Tryz.f197) C H=uj G N a (C 0) (C 1) (C 6) (C 7) (C 8) (C 9) H:=by
 refine aH ((aq j ((aq j (Om G N a) ((aT j ((aq j ((aq j (On G N a) (aj _))) (aj _))))))) (aj _))) λC H=> ?_
 delta uj;generalize kC G N a=b;revert b;refine id ?_;intro b;kernel_rfl
def pk(G:ai)(N:Nat)(g b k:aa)(H:ae):O:=ad (al P .sub 3 U k b) λa=>ad (al P .geq 3 V a (I J 8)) λh=>ax (D h) (ec P 3 294 a H λi=>a7 H [I .u64 0] λe c=>aB c (aA P c 294 e i) λd=>au d (G 230 [a] d) λj f=>ad (al P .quo 3 V a (I J 4)) λl=>ad (al P .mul 3 V l (I J 2)) λm=>ad (al P .add 3 U b m) λn=>ad (al P .sub 3 V n (I J 1)) λo=>kD G N N g b a e j o f) (D (.tuple [],H))
def Ol(G:ai)(N:Nat)(b:aa)(c:aa)(d:aa)(H:ae):aD Tryz.f197 G N (aP [b,c,d]) H=pk G N b c d H:=by
 refine aS (A:=aD Tryz.f197 G N) ((aq j ((aq j ((bB j ((aq j ((aq j ((aq j ((aT j ((a8 (k:=λm C H=>kD G N m (C 0) (C 1) (C 6) (C 7) (C 8) (C 9) H) j (λC H=>j) (λm=>Oj G N (kD G N m)))))) (aj _))) (aj _))) (aj _))) (aj _))) (aj _))) (aj _))) ?_;delta pk;generalize kD G N N=a;revert a;refine id ?_;intro a;kernel_rfl
def fR(G:ai)(e a:aa)(H:ae):O:=ad (ah P H 3 e) λb=>ad (al P .eql 3 V b (I J 0)) λc=>ax (D c) (D (.tuple [a,I J 1],H)) (ad (al P .eql 3 V b (I J 12)) λd=>ax (D d) (D (.tuple [a,I J 2],H)) (D (.tuple [a,I J 0],H)))
def Oq(G:ai)(N:Nat):∀C H,aE P G N (af (af (af (af (af (af (af (aG Tryz.f198)))))))) (ay Tryz.f198) [] (ay Tryz.f198) C H=fR G (C 9) (C 11) H:=by
 refine aH (aj _) λC H=> ?_
 delta fR;kernel_rfl
def kE(G:ai)(c a:aa)(d e f:aa)(H:ae):O:=au H (G 233 [c,d,e,f,a] H) λg b=>fR G a g b
def Ot(G:ai)(N:Nat):∀C H,aE P G N (af (an (af (an (af (af (af (af (af (af (aG Tryz.f198))))))))))) (λC H=>fR G (C 9) (C 11) H) [] (ay Tryz.f198) C H=kE G (C 0) (C 9) (C 10) (C 11) (C 12) H:=by
 refine aH (aj _) λC H=> ?_
 delta kE;generalize fR G=a;revert a;refine id ?_;intro a;kernel_rfl
def pn(G:ai)(b e n:aa)(H:ae):O:=ad (al P .sub 3 U n e) λc=>a7 H [I J 0] λa d=>ad (al P .quo 3 V c (I J 4)) λl=>ad (al P .mul 3 V l (I J 1)) λm=>ad (al P .add 3 U e m) λi=>ad (al P .quo 3 V c (I J 4)) λo=>ad (al P .mul 3 V o (I J 2)) λp=>ad (al P .add 3 U e p) λf=>ad (al P .quo 3 V c (I J 4)) λq=>ad (al P .mul 3 V q (I J 3)) λr=>ad (al P .add 3 U e r) λj=>ad (al P .geq 3 V c (I J 8)) λs=>ax (D s) (ad (al P .geq 3 V c (I J 50)) λt=>ax (D t) (au d (G 232 [b,i,a] d) λu g=>au g (G 232 [b,f,a] g) λv h=>au h (G 232 [b,j,a] h) λw k=>kE G b a u v w k) (kE G b a i f j d)) (fR G a f d)
def Oo(G:ai)(N:Nat)(c:aa)(d:aa)(e:aa)(H:ae):aD Tryz.f198 G N (aP [c,d,e]) H=pn G c d e H:=by
 refine aS (A:=aD Tryz.f198 G N) ((aq j ((aq j ((aq j ((aq j ((aq j ((aq j ((aq j (Oq G N) ((aq j ((bB j ((aq j (Ot G N) (aj _))) (aj _))) (aj _))))) (aj _))) (aj _))) (aj _))) (aj _))) (aj _))) (aj _))) ?_;delta pn;generalize fR G=a;generalize kE G=b;revert a b;refine id ?_;intro a b;kernel_rfl
def uk(G:ai)(N:Nat)(e:aa->aa->aa->ae->O)(a b c:aa)(H:ae):O:=ad (al P .lss 3 U b c) λg=>ax (D g) (ad (aF P 30 a c) λh=>ad (ah P H 3 h) λi=>ad (aF P 30 a b) λj=>ad (ah P H 3 j) λk=>ad (aF P 30 a b) λl=>aB H (aA P H 3 l i) λd=>ad (aF P 30 a c) λm=>aB d (aA P d 3 m k) λf=>ad (al P .add 3 V b (I J 1)) λn=>ad (al P .sub 3 V c (I J 1)) λo=>e a n o f) (D (.tuple [],H))
def kF(G:ai)(N:Nat):Nat->aa->aa->aa->ae->O
 |0,_,_,_,_=>Y
 |n+1,a,b,c,H=>uk G N (kF G N n) a b c H
def Ou(G:ai)(N:Nat)(a:aa->aa->aa->ae->O):∀C H,aE P G N (an (an (af (af (aG Tryz.f199))))) (λC H=>a (C 0) (C 6) (C 7) H) [(0,(ay Tryz.f199))] (ay Tryz.f199) C H=uk G N a (C 0) (C 6) (C 7) H:=by
 refine aH (aj _) λC H=> ?_
 delta uk;kernel_rfl
def po(G:ai)(N:Nat)(a b d:aa)(H:ae):O:=ad (al P .sub 3 V d (I J 1)) λc=>kF G N N a b c H
def Ov(G:ai)(N:Nat)(b:aa)(c:aa)(d:aa)(H:ae):aD Tryz.f199 G N (aP [b,c,d]) H=po G N b c d H:=by
 refine aS (A:=aD Tryz.f199 G N) ((aq j ((aq j ((aT j ((a8 (k:=λm C H=>kF G N m (C 0) (C 6) (C 7) H) j (λC H=>j) (λm=>Ou G N (kF G N m)))))) (aj _))) (aj _))) ?_;delta po;generalize kF G N N=a;revert a;refine id ?_;intro a;kernel_rfl
def dR(G:ai)(N:Nat)(H:ae):O:=some ((Z U),H)
def OB(G:ai)(N:Nat):∀C H,aE P G N (af (af (af (aG Tryz.f200)))) (ay Tryz.f200) [] (ay Tryz.f200) C H=dR G N H:=by
 refine aH (aj _) λC H=> ?_
 delta dR;kernel_rfl
def c6(G:ai)(N:Nat)(a:aa->aa->aa->aa->aa->ae->O)(b c:aa)(e f g:aa)(H:ae):O:=ad (al P .add 3 V g (I J 1)) λd=>a b c e f d H
def OC(G:ai)(N:Nat)(a:aa->aa->aa->aa->aa->ae->O):∀C H,aE P G N (af (af (an (an (af (an (af (af (aG Tryz.f200))))))))) (λC H=>a (C 0) (C 1) (C 2) (C 7) (C 8) H) [(0,(λC H=>dR G N H))] (ay Tryz.f200) C H=c6 G N a (C 0) (C 1) (C 2) (C 7) (C 8) H:=by
 refine aH (aj _) λC H=> ?_
 delta c6;kernel_rfl
def uo(G:ai)(N:Nat)(h:aa->aa->aa->aa->aa->ae->O)(j:aa->aa->aa->aa->aa->aa->ae->O)(a e:aa)(d f:aa)(g b:aa)(H:ae):O:=ad (al P .lss 3 U b d) λl=>ax (D l) (ad (aF P 30 a b) λn=>ad (ah P H 3 n) λo=>ad (al P .sub 3 V b (I J 1)) λp=>ad (aF P 30 a p) λq=>ad (ah P H 3 q) λr=>au H (G 201 [o,r] H) λs c=>ad (bt .not s) λt=>ax (D t) (c6 G N h a e d f g c) (ad (al P .sub 3 V b (I J 1)) λv=>ad (aF P 30 a v) λw=>ad (ah P c 3 w) λx=>ad (aF P 30 a b) λy=>ad (ah P c 3 y) λz=>ad (aF P 30 a b) λA=>aB c (aA P c 3 A x) λi=>ad (al P .sub 3 V b (I J 1)) λu=>ad (aF P 30 a u) λB=>aB i (aA P i 3 B z) λk=>ad (al P .add 3 V b (I J 1)) λm=>j a e d f g m k)) (c6 G N h a e d f g H)
def kI(G:ai)(N:Nat)(a:aa->aa->aa->aa->aa->ae->O):Nat->aa->aa->aa->aa->aa->aa->ae->O
 |0,_,_,_,_,_,_,_=>Y
 |n+1,b,c,e,f,g,d,H=>uo G N a (kI G N a n) b c e f g d H
def Ox(G:ai)(N:Nat)(a:aa->aa->aa->aa->aa->ae->O)(c:aa->aa->aa->aa->aa->aa->ae->O):∀C H,aE P G N (an (an (af (an (af (af (af (af (af (af (an (an (af (an (an (af (an (af (af (aG Tryz.f200)))))))))))))))))))) (λC H=>c (C 0) (C 1) (C 2) (C 7) (C 8) (C 10) H) [(6,(λC H=>c6 G N a (C 0) (C 1) (C 2) (C 7) (C 8) H)),(1,(λC H=>c6 G N a (C 0) (C 1) (C 2) (C 7) (C 8) H)),(0,(λC H=>dR G N H))] (ay Tryz.f200) C H=uo G N a c (C 0) (C 1) (C 2) (C 7) (C 8) (C 10) H:=by
 refine aH (aj _) λC H=> ?_
 delta uo;generalize c6 G N a=b;revert b;refine id ?_;intro b;kernel_rfl
def e3(G:ai)(N:Nat)(c:aa->aa->aa->aa->aa->ae->O)(d e:aa)(b a f:aa)(H:ae):O:=ad (al P .sub 3 U b a) λh=>ad (al P .geq 3 V h (I J 2)) λi=>ax (D i) (ad (al P .add 3 V a (I J 1)) λg=>kI G N c N d e b a f g H) (c6 G N c d e b a f H)
def OE(G:ai)(N:Nat)(a:aa->aa->aa->aa->aa->ae->O):∀C H,aE P G N (af (af (af (af (af (an (an (af (an (an (af (an (af (af (aG Tryz.f200))))))))))))))) (λC H=>c6 G N a (C 0) (C 1) (C 2) (C 7) (C 8) H) [(1,(λC H=>c6 G N a (C 0) (C 1) (C 2) (C 7) (C 8) H)),(0,(λC H=>dR G N H))] (ay Tryz.f200) C H=e3 G N a (C 0) (C 1) (C 2) (C 7) (C 8) H:=by
 refine aH ((aq j ((bB j ((aq j ((aT j ((a8 (k:=λm C H=>kI G N a m (C 0) (C 1) (C 2) (C 7) (C 8) (C 10) H) j (λC H=>j) (λm=>Ox G N a (kI G N a m)))))) (aj _))) (aj _))) (aj _))) λC H=> ?_
 delta e3;generalize c6 G N a=b;generalize kI G N a N=c;revert b c;refine id ?_;intro b c;kernel_rfl
def uq(G:ai)(N:Nat)(h:aa->aa->aa->aa->aa->ae->O)(j:aa->aa->aa->aa->aa->aa->ae->O)(a d:aa)(e f:aa)(g b:aa)(H:ae):O:=ad (al P .geq 3 V b (I J 1)) λl=>ax (D l) (ad (aF P 30 a b) λn=>ad (ah P H 3 n) λo=>ad (al P .sub 3 V b (I J 1)) λp=>ad (aF P 30 a p) λq=>ad (ah P H 3 q) λr=>au H (G 201 [o,r] H) λs c=>ad (bt .not s) λt=>ax (D t) (e3 G N h a d e f g c) (ad (al P .sub 3 V b (I J 1)) λv=>ad (aF P 30 a v) λw=>ad (ah P c 3 w) λx=>ad (aF P 30 a b) λy=>ad (ah P c 3 y) λz=>ad (aF P 30 a b) λA=>aB c (aA P c 3 A x) λi=>ad (al P .sub 3 V b (I J 1)) λu=>ad (aF P 30 a u) λB=>aB i (aA P i 3 B z) λk=>ad (al P .sub 3 V b (I J 1)) λm=>j a d e f g m k)) (e3 G N h a d e f g H)
def kJ(G:ai)(N:Nat)(a:aa->aa->aa->aa->aa->ae->O):Nat->aa->aa->aa->aa->aa->aa->ae->O
 |0,_,_,_,_,_,_,_=>Y
 |n+1,b,c,d,e,f,g,H=>uq G N a (kJ G N a n) b c d e f g H
def Oy(G:ai)(N:Nat)(a:aa->aa->aa->aa->aa->ae->O)(c:aa->aa->aa->aa->aa->aa->ae->O):∀C H,aE P G N (an (an (af (an (af (an (af (af (af (af (an (an (af (an (an (af (an (af (af (aG Tryz.f200)))))))))))))))))))) (λC H=>c (C 0) (C 1) (C 2) (C 7) (C 8) (C 9) H) [(4,(λC H=>e3 G N a (C 0) (C 1) (C 2) (C 7) (C 8) H)),(1,(λC H=>c6 G N a (C 0) (C 1) (C 2) (C 7) (C 8) H)),(0,(λC H=>dR G N H))] (ay Tryz.f200) C H=uq G N a c (C 0) (C 1) (C 2) (C 7) (C 8) (C 9) H:=by
 refine aH (aj _) λC H=> ?_
 delta uq;generalize e3 G N a=b;revert b;refine id ?_;intro b;kernel_rfl
def kG(G:ai)(N:Nat)(e:aa->aa->aa->aa->aa->ae->O)(b c:aa)(d a h:aa)(H:ae):O:=ad (al P .eql 3 U a d) λi=>ax (D i) (D ((Z V),H)) (ad (al P .sub 3 U d c) λj=>ad (al P .lss 3 V j (I J 50)) λk=>ax (D k) (D ((Z U),H)) (ad (al P .sub 3 V a (I J 1)) λm=>ad (aF P 30 b m) λn=>ad (ah P H 3 n) λo=>ad (aF P 30 b a) λp=>ad (ah P H 3 p) λq=>ad (aF P 30 b a) λr=>aB H (aA P H 3 r o) λf=>ad (al P .sub 3 V a (I J 1)) λl=>ad (aF P 30 b l) λs=>aB f (aA P f 3 s q) λg=>ad (al P .sub 3 U a c) λt=>ad (al P .geq 3 V t (I J 2)) λu=>ax (D u) (ad (al P .sub 3 V a (I J 1)) λv=>kJ G N e N b c d a h v g) (e3 G N e b c d a h g)))
def OD(G:ai)(N:Nat)(a:aa->aa->aa->aa->aa->ae->O):∀C H,aE P G N (af (an (an (af (an (an (af (an (af (af (aG Tryz.f200))))))))))) (λC H=>c6 G N a (C 0) (C 1) (C 2) (C 7) (C 8) H) [(1,(λC H=>c6 G N a (C 0) (C 1) (C 2) (C 7) (C 8) H)),(0,(λC H=>dR G N H))] (ay Tryz.f200) C H=kG G N a (C 0) (C 1) (C 2) (C 7) (C 8) H:=by
 refine aH ((aq j ((aq j ((aq j ((aq j (OE G N a) ((aq j ((bB j ((aq j ((aT j ((a8 (k:=λm C H=>kJ G N a m (C 0) (C 1) (C 2) (C 7) (C 8) (C 9) H) j (λC H=>j) (λm=>Oy G N a (kJ G N a m)))))) (aj _))) (aj _))) (aj _))))) (aj _))) (aj _))) (aj _))) λC H=> ?_
 delta kG;generalize e3 G N a=b;generalize kJ G N a N=c;revert b c;refine id ?_;intro b c;kernel_rfl
def ur(G:ai)(N:Nat)(t:aa->aa->aa->aa->aa->ae->O)(u:aa->aa->aa->aa->aa->ae->O)(n p:aa)(o k s:aa)(H:ae):O:=ad (al P .lss 3 U k o) λa=>aK a V (aM n) λc=>aK a V (aM k) λd=>aK a V (az (aF P 30 c.val d.val)) λb=>aK a V (qr (ah P (b.heap (d.heap (c.heap H))) 3 b.val)) λf=>aK a V (aM n) λg=>aK a V (aM k) λh=>aK a V (az (al P .sub 3 V h.val (I J 1))) λi=>aK a V (az (aF P 30 g.val i.val)) λe=>aK a V (qr (ah P (e.heap (i.heap (h.heap (g.heap (f.heap (b.heap (d.heap (c.heap H)))))))) 3 e.val)) λj=>aK a V (λq=>bg (j.heap (e.heap (i.heap (h.heap (g.heap (f.heap (b.heap (d.heap (c.heap H))))))))) (G 201 [f.val,j.val] (j.heap (e.heap (i.heap (h.heap (g.heap (f.heap (b.heap (d.heap (c.heap H)))))))))) q) λm=>aK a V (az (bt .not m.val)) λl=>ad (aN a (D l.val) (D (Z U))) λr=>bif b3 [0,0,3,7,15,15,63,127,15,15,527,1807,3855,8191,16383,32767] [0,1,2,3,4,5,6,7,8,9,10,11,12,13,14,15] [⟨0,.pure k,λH=>Y⟩,⟨1,.pure o,λH=>Y⟩,⟨2,.pure a,λH=>Y⟩,⟨3,.pure a,λH=>Y⟩,⟨4,c,λH=>Y⟩,⟨5,d,λH=>Y⟩,⟨6,b,λH=>Y⟩,⟨7,f,λH=>ah P H 3 b.val⟩,⟨8,g,λH=>Y⟩,⟨9,h,λH=>Y⟩,⟨10,i,λH=>Y⟩,⟨11,e,λH=>Y⟩,⟨12,j,λH=>ah P H 3 e.val⟩,⟨13,m,λH=>Y⟩,⟨14,l,λH=>Y⟩,⟨15,.pure r,λH=>Y⟩] H then(ax (D r) (ad (al P .add 3 V k (I J 1)) λv=>u n p o v s (l.heap (m.heap (j.heap (e.heap (i.heap (h.heap (g.heap (f.heap (b.heap (d.heap (c.heap H)))))))))))) (kG G N t n p o k s (l.heap (m.heap (j.heap (e.heap (i.heap (h.heap (g.heap (f.heap (b.heap (d.heap (c.heap H)))))))))))))else Y
def kK(G:ai)(N:Nat)(a:aa->aa->aa->aa->aa->ae->O):Nat->aa->aa->aa->aa->aa->ae->O
 |0,_,_,_,_,_,_=>Y
 |n+1,b,c,d,e,f,H=>ur G N a (kK G N a n) b c d e f H
def Oz(G:ai)(N:Nat)(a:aa->aa->aa->aa->aa->ae->O)(c:aa->aa->aa->aa->aa->ae->O):∀C H,aE P G N (an (an (an (an (an (af (an (an (af (an (af (af (aG Tryz.f200))))))))))))) (λC H=>c (C 0) (C 1) (C 2) (C 7) (C 8) H) [(2,(λC H=>kG G N a (C 0) (C 1) (C 2) (C 7) (C 8) H)),(1,(λC H=>c6 G N a (C 0) (C 1) (C 2) (C 7) (C 8) H)),(0,(λC H=>dR G N H))] (ay Tryz.f200) C H=ur G N a c (C 0) (C 1) (C 2) (C 7) (C 8) H:=by
 refine aH (aj _) λC H=> ?_
 delta ur;generalize kG G N a=b;revert b;refine id ?_;intro b;kernel_rfl
def um(G:ai)(N:Nat)(b:aa->aa->aa->aa->aa->ae->O)(c d:aa)(f g a:aa)(H:ae):O:=ad (al P .lss 3 V a (I J 5)) λe=>ax (D e) (kK G N b N c d f g a H) (dR G N H)
def kH(G:ai)(N:Nat):Nat->aa->aa->aa->aa->aa->ae->O
 |0,_,_,_,_,_,_=>Y
 |n+1,a,b,c,d,e,H=>um G N (kH G N n) a b c d e H
def Ow(G:ai)(N:Nat)(a:aa->aa->aa->aa->aa->ae->O):∀C H,aE P G N (an (an (af (an (af (af (aG Tryz.f200))))))) (λC H=>a (C 0) (C 1) (C 2) (C 7) (C 8) H) [(0,(λC H=>dR G N H))] (ay Tryz.f200) C H=um G N a (C 0) (C 1) (C 2) (C 7) (C 8) H:=by
 refine aH ((aq j ((aq j (OC G N a) ((aT j ((aq j (OD G N a) ((aT j ((a8 (k:=λm C H=>kK G N a m (C 0) (C 1) (C 2) (C 7) (C 8) H) j (λC H=>j) (λm=>Oz G N a (kK G N a m)))))))))))) (aj _))) λC H=> ?_
 delta um;generalize dR G N=b;generalize kK G N a N=c;revert b c;refine id ?_;intro b c;kernel_rfl
def ps(G:ai)(N:Nat)(b a d:aa)(H:ae):O:=ad (al P .add 3 V a (I J 1)) λc=>kH G N N b a d c (I J 0) H
def OA(G:ai)(N:Nat)(b:aa)(c:aa)(d:aa)(H:ae):aD Tryz.f200 G N (aP [b,c,d]) H=ps G N b c d H:=by
 refine aS (A:=aD Tryz.f200 G N) ((aq j ((aq j ((aq j (OB G N) ((aq j ((aT j ((a8 (k:=λm C H=>kH G N m (C 0) (C 1) (C 2) (C 7) (C 8) H) j (λC H=>j) (λm=>Ow G N (kH G N m)))))) (aj _))))) (aj _))) (aj _))) ?_;delta ps;generalize kH G N N=a;revert a;refine id ?_;intro a;kernel_rfl
def pt(G:ai)(d e:aa)(H:ae):O:=au H (G 234 [d] H) λb f=>ao b V f (aM e) λr c=>ao b V c (λq=>bg c (G 234 [r] c) q) λs g=>ao b V g (az (bt .not s)) λl h=>ad (aN b (D l) (D (Z U))) λa=>ao a U h (aM d) λm i=>ao a U i (aM e) λn j=>ao a U j (az (al P .lss 3 U m n)) λo k=>ad (aN a (D (Z V)) (D o)) λp=>D (p,k)
def OF(G:ai)(N:Nat)(a:aa)(b:aa)(H:ae):aD Tryz.f201 G N (aP [a,b]) H=pt G a b H:=by
 refine aS (A:=aD Tryz.f201 G N) (aj _) ?_;delta pt;kernel_rfl
def ew(G:ai)(N:Nat)(a:aa)(H:ae):O:=some (a,H)
def OK(G:ai)(N:Nat):∀C H,aE P G N (af (af (af (af (aG Tryz.f202))))) (ay Tryz.f202) [] (ay Tryz.f202) C H=ew G N (C 9) H:=by
 refine aH (aj _) λC H=> ?_
 delta ew;kernel_rfl
def kM(G:ai)(N:Nat)(e:aa->aa->aa->aa->ae->O)(a g:aa)(b c:aa)(H:ae):O:=ad (al P .gtr 3 U b c) λh=>ax (D h) (ew G N b H) (ad (aF P 30 a c) λi=>ad (ah P H 3 i) λj=>ad (aF P 30 a b) λk=>ad (ah P H 3 k) λl=>ad (aF P 30 a b) λm=>aB H (aA P H 3 m j) λd=>ad (aF P 30 a c) λn=>aB d (aA P d 3 n l) λf=>ad (al P .add 3 V b (I J 1)) λo=>ad (al P .sub 3 V c (I J 1)) λp=>e a g o p f)
def OM(G:ai)(N:Nat)(a:aa->aa->aa->aa->ae->O):∀C H,aE P G N (af (af (an (an (an (an (af (af (af (aG Tryz.f202)))))))))) (λC H=>a (C 0) (C 1) (C 9) (C 10) H) [(1,(λC H=>a (C 0) (C 1) (C 9) (C 10) H)),(0,(λC H=>ew G N (C 9) H))] (ay Tryz.f202) C H=kM G N a (C 0) (C 1) (C 9) (C 10) H:=by
 refine aH (aj _) λC H=> ?_
 delta kM;generalize ew G N=b;revert b;refine id ?_;intro b;kernel_rfl
def uw(G:ai)(N:Nat)(p:aa->aa->aa->aa->ae->O)(r:aa->aa->aa->aa->ae->O)(l n:aa)(m j:aa)(H:ae):O:=ad (al P .leq 3 U m j) λa=>aK a V (aM l) λc=>aK a V (aM n) λd=>aK a V (az (aF P 30 c.val d.val)) λb=>aK a V (qr (ah P (b.heap (d.heap (c.heap H))) 3 b.val)) λf=>aK a V (aM l) λg=>aK a V (aM j) λh=>aK a V (az (aF P 30 g.val h.val)) λe=>aK a V (qr (ah P (e.heap (h.heap (g.heap (f.heap (b.heap (d.heap (c.heap H))))))) 3 e.val)) λi=>aK a V (λq=>bg (i.heap (e.heap (h.heap (g.heap (f.heap (b.heap (d.heap (c.heap H)))))))) (G 201 [f.val,i.val] (i.heap (e.heap (h.heap (g.heap (f.heap (b.heap (d.heap (c.heap H))))))))) q) λk=>ad (aN a (D k.val) (D (Z U))) λo=>bif b3 [0,0,3,7,15,15,63,127,15,15,783,1807,4095,8191] [0,1,2,3,4,5,6,7,8,9,10,11,12,13] [⟨0,.pure m,λH=>Y⟩,⟨1,.pure j,λH=>Y⟩,⟨2,.pure a,λH=>Y⟩,⟨3,.pure a,λH=>Y⟩,⟨4,c,λH=>Y⟩,⟨5,d,λH=>Y⟩,⟨6,b,λH=>Y⟩,⟨7,f,λH=>ah P H 3 b.val⟩,⟨8,g,λH=>Y⟩,⟨9,h,λH=>Y⟩,⟨10,e,λH=>Y⟩,⟨11,i,λH=>ah P H 3 e.val⟩,⟨12,k,λH=>Y⟩,⟨13,.pure o,λH=>Y⟩] H then(ax (D o) (ad (al P .sub 3 V j (I J 1)) λs=>r l n m s (k.heap (i.heap (e.heap (h.heap (g.heap (f.heap (b.heap (d.heap (c.heap H)))))))))) (kM G N p l n m j (k.heap (i.heap (e.heap (h.heap (g.heap (f.heap (b.heap (d.heap (c.heap H)))))))))))else Y
def kO(G:ai)(N:Nat)(a:aa->aa->aa->aa->ae->O):Nat->aa->aa->aa->aa->ae->O
 |0,_,_,_,_,_=>Y
 |n+1,b,c,e,d,H=>uw G N a (kO G N a n) b c e d H
def OH(G:ai)(N:Nat)(a:aa->aa->aa->aa->ae->O)(c:aa->aa->aa->aa->ae->O):∀C H,aE P G N (an (an (an (af (an (an (an (an (af (af (af (aG Tryz.f202)))))))))))) (λC H=>c (C 0) (C 1) (C 9) (C 10) H) [(4,(λC H=>kM G N a (C 0) (C 1) (C 9) (C 10) H)),(1,(λC H=>a (C 0) (C 1) (C 9) (C 10) H)),(0,(λC H=>ew G N (C 9) H))] (ay Tryz.f202) C H=uw G N a c (C 0) (C 1) (C 9) (C 10) H:=by
 refine aH (aj _) λC H=> ?_
 delta uw;generalize kM G N a=b;revert b;refine id ?_;intro b;kernel_rfl
def kL(G:ai)(N:Nat)(a:aa->aa->aa->aa->ae->O)(b c:aa)(e d:aa)(H:ae):O:=kO G N a N b c e d H
def OL(G:ai)(N:Nat)(a:aa->aa->aa->aa->ae->O):∀C H,aE P G N (af (an (an (an (an (af (af (af (aG Tryz.f202))))))))) (λC H=>a (C 0) (C 1) (C 9) (C 10) H) [(1,(λC H=>a (C 0) (C 1) (C 9) (C 10) H)),(0,(λC H=>ew G N (C 9) H))] (ay Tryz.f202) C H=kL G N a (C 0) (C 1) (C 9) (C 10) H:=by
 refine aH ((aq j (OM G N a) ((aT j ((a8 (k:=λm C H=>kO G N a m (C 0) (C 1) (C 9) (C 10) H) j (λC H=>j) (λm=>OH G N a (kO G N a m)))))))) λC H=> ?_
 delta kL;generalize kO G N a N=b;revert b;refine id ?_;intro b;kernel_rfl
def ux(G:ai)(N:Nat)(r:aa->aa->aa->aa->ae->O)(s:aa->aa->aa->aa->ae->O)(m o:aa)(j n:aa)(H:ae):O:=ad (al P .leq 3 U j n) λa=>aK a V (aM m) λc=>aK a V (aM o) λd=>aK a V (az (aF P 30 c.val d.val)) λb=>aK a V (qr (ah P (b.heap (d.heap (c.heap H))) 3 b.val)) λf=>aK a V (aM m) λg=>aK a V (aM j) λh=>aK a V (az (aF P 30 g.val h.val)) λe=>aK a V (qr (ah P (e.heap (h.heap (g.heap (f.heap (b.heap (d.heap (c.heap H))))))) 3 e.val)) λi=>aK a V (λq=>bg (i.heap (e.heap (h.heap (g.heap (f.heap (b.heap (d.heap (c.heap H)))))))) (G 201 [f.val,i.val] (i.heap (e.heap (h.heap (g.heap (f.heap (b.heap (d.heap (c.heap H))))))))) q) λk=>aK a V (az (bt .not k.val)) λl=>ad (aN a (D l.val) (D (Z U))) λp=>bif b3 [0,0,3,7,15,15,63,127,15,15,783,1807,4095,8191,16383] [0,1,2,3,4,5,6,7,8,9,10,11,12,13,14] [⟨0,.pure j,λH=>Y⟩,⟨1,.pure n,λH=>Y⟩,⟨2,.pure a,λH=>Y⟩,⟨3,.pure a,λH=>Y⟩,⟨4,c,λH=>Y⟩,⟨5,d,λH=>Y⟩,⟨6,b,λH=>Y⟩,⟨7,f,λH=>ah P H 3 b.val⟩,⟨8,g,λH=>Y⟩,⟨9,h,λH=>Y⟩,⟨10,e,λH=>Y⟩,⟨11,i,λH=>ah P H 3 e.val⟩,⟨12,k,λH=>Y⟩,⟨13,l,λH=>Y⟩,⟨14,.pure p,λH=>Y⟩] H then(ax (D p) (ad (al P .add 3 V j (I J 1)) λt=>s m o t n (l.heap (k.heap (i.heap (e.heap (h.heap (g.heap (f.heap (b.heap (d.heap (c.heap H))))))))))) (kL G N r m o j n (l.heap (k.heap (i.heap (e.heap (h.heap (g.heap (f.heap (b.heap (d.heap (c.heap H))))))))))))else Y
def kP(G:ai)(N:Nat)(a:aa->aa->aa->aa->ae->O):Nat->aa->aa->aa->aa->ae->O
 |0,_,_,_,_,_=>Y
 |n+1,b,c,e,d,H=>ux G N a (kP G N a n) b c e d H
def OI(G:ai)(N:Nat)(a:aa->aa->aa->aa->ae->O)(c:aa->aa->aa->aa->ae->O):∀C H,aE P G N (an (an (an (an (an (an (an (af (af (af (aG Tryz.f202))))))))))) (λC H=>c (C 0) (C 1) (C 9) (C 10) H) [(2,(λC H=>kL G N a (C 0) (C 1) (C 9) (C 10) H)),(1,(λC H=>a (C 0) (C 1) (C 9) (C 10) H)),(0,(λC H=>ew G N (C 9) H))] (ay Tryz.f202) C H=ux G N a c (C 0) (C 1) (C 9) (C 10) H:=by
 refine aH (aj _) λC H=> ?_
 delta ux;generalize kL G N a=b;revert b;refine id ?_;intro b;kernel_rfl
def uu(G:ai)(N:Nat)(a:aa->aa->aa->aa->ae->O)(b c:aa)(e d:aa)(H:ae):O:=kP G N a N b c e d H
def kN(G:ai)(N:Nat):Nat->aa->aa->aa->aa->ae->O
 |0,_,_,_,_,_=>Y
 |n+1,a,b,d,c,H=>uu G N (kN G N n) a b d c H
def OG(G:ai)(N:Nat)(a:aa->aa->aa->aa->ae->O):∀C H,aE P G N (an (an (an (af (af (af (aG Tryz.f202))))))) (λC H=>a (C 0) (C 1) (C 9) (C 10) H) [(0,(λC H=>ew G N (C 9) H))] (ay Tryz.f202) C H=uu G N a (C 0) (C 1) (C 9) (C 10) H:=by
 refine aH ((aT j ((aq j (OL G N a) ((aT j ((a8 (k:=λm C H=>kP G N a m (C 0) (C 1) (C 9) (C 10) H) j (λC H=>j) (λm=>OI G N a (kP G N a m)))))))))) λC H=> ?_
 delta uu;generalize kP G N a N=b;revert b;refine id ?_;intro b;kernel_rfl
def pv(G:ai)(N:Nat)(a b:aa)(h d:aa)(H:ae):O:=ad (aF P 30 a d) λf=>ad (ah P H 3 f) λg=>ad (aF P 30 a b) λi=>ad (ah P H 3 i) λj=>ad (aF P 30 a b) λk=>aB H (aA P H 3 k g) λc=>ad (aF P 30 a d) λl=>aB c (aA P c 3 l j) λe=>ad (al P .add 3 V b (I J 1)) λm=>ad (al P .sub 3 V h (I J 1)) λn=>kN G N N a b m n e
def OJ(G:ai)(N:Nat)(b:aa)(c:aa)(d:aa)(e:aa)(H:ae):aD Tryz.f202 G N (aP [b,c,d,e]) H=pv G N b c d e H:=by
 refine aS (A:=aD Tryz.f202 G N) ((aq j ((aq j ((aq j ((aq j (OK G N) ((aT j ((a8 (k:=λm C H=>kN G N m (C 0) (C 1) (C 9) (C 10) H) j (λC H=>j) (λm=>OG G N (kN G N m)))))))) (aj _))) (aj _))) (aj _))) ?_;delta pv;generalize kN G N N=a;revert a;refine id ?_;intro a;kernel_rfl
def ey(G:ai)(N:Nat)(a d b:aa)(H:ae):O:=ad (aF P 30 a d) λf=>ad (ah P H 3 f) λg=>ad (aF P 30 a b) λh=>ad (ah P H 3 h) λi=>ad (aF P 30 a b) λj=>aB H (aA P H 3 j g) λc=>ad (aF P 30 a d) λk=>aB c (aA P c 3 k i) λe=>D (.tuple [b,Z U],e)
def OW(G:ai)(N:Nat):∀C H,aE P G N (af (af (af (af (af (af (af (af (af (af (aG Tryz.f203))))))))))) (ay Tryz.f203) [] (ay Tryz.f203) C H=ey G N (C 0) (C 1) (C 11) H:=by
 refine aH (aj _) λC H=> ?_
 delta ey;kernel_rfl
def kT(G:ai)(N:Nat)(f:aa->aa->aa->aa->ae->O)(a e:aa)(c b:aa)(H:ae):O:=ad (al P .gtr 3 U c b) λh=>ax (D h) (ey G N a e b H) (ad (aF P 30 a b) λi=>ad (ah P H 3 i) λj=>ad (aF P 30 a c) λk=>ad (ah P H 3 k) λl=>ad (aF P 30 a c) λm=>aB H (aA P H 3 m j) λd=>ad (aF P 30 a b) λn=>aB d (aA P d 3 n l) λg=>ad (al P .add 3 V c (I J 1)) λo=>ad (al P .sub 3 V b (I J 1)) λp=>f a e o p g)
def OY(G:ai)(N:Nat)(a:aa->aa->aa->aa->ae->O):∀C H,aE P G N (af (af (an (an (an (an (af (af (af (af (af (af (af (af (af (aG Tryz.f203)))))))))))))))) (λC H=>a (C 0) (C 1) (C 10) (C 11) H) [(5,(λC H=>a (C 0) (C 1) (C 10) (C 11) H)),(4,(λC H=>ey G N (C 0) (C 1) (C 11) H))] (ay Tryz.f203) C H=kT G N a (C 0) (C 1) (C 10) (C 11) H:=by
 refine aH (aj _) λC H=> ?_
 delta kT;generalize ey G N=b;revert b;refine id ?_;intro b;kernel_rfl
def uz(G:ai)(N:Nat)(r:aa->aa->aa->aa->ae->O)(s:aa->aa->aa->aa->ae->O)(m o:aa)(n j:aa)(H:ae):O:=ad (al P .leq 3 U n j) λa=>aK a V (aM m) λc=>aK a V (aM j) λd=>aK a V (az (aF P 30 c.val d.val)) λb=>aK a V (qr (ah P (b.heap (d.heap (c.heap H))) 3 b.val)) λf=>aK a V (aM m) λg=>aK a V (aM o) λh=>aK a V (az (aF P 30 g.val h.val)) λe=>aK a V (qr (ah P (e.heap (h.heap (g.heap (f.heap (b.heap (d.heap (c.heap H))))))) 3 e.val)) λi=>aK a V (λq=>bg (i.heap (e.heap (h.heap (g.heap (f.heap (b.heap (d.heap (c.heap H)))))))) (G 201 [f.val,i.val] (i.heap (e.heap (h.heap (g.heap (f.heap (b.heap (d.heap (c.heap H))))))))) q) λk=>aK a V (az (bt .not k.val)) λl=>ad (aN a (D l.val) (D (Z U))) λp=>bif b3 [0,0,3,7,15,15,63,127,15,15,783,1807,4095,8191,16383] [0,1,2,3,4,5,6,7,8,9,10,11,12,13,14] [⟨0,.pure n,λH=>Y⟩,⟨1,.pure j,λH=>Y⟩,⟨2,.pure a,λH=>Y⟩,⟨3,.pure a,λH=>Y⟩,⟨4,c,λH=>Y⟩,⟨5,d,λH=>Y⟩,⟨6,b,λH=>Y⟩,⟨7,f,λH=>ah P H 3 b.val⟩,⟨8,g,λH=>Y⟩,⟨9,h,λH=>Y⟩,⟨10,e,λH=>Y⟩,⟨11,i,λH=>ah P H 3 e.val⟩,⟨12,k,λH=>Y⟩,⟨13,l,λH=>Y⟩,⟨14,.pure p,λH=>Y⟩] H then(ax (D p) (ad (al P .sub 3 V j (I J 1)) λt=>s m o n t (l.heap (k.heap (i.heap (e.heap (h.heap (g.heap (f.heap (b.heap (d.heap (c.heap H))))))))))) (kT G N r m o n j (l.heap (k.heap (i.heap (e.heap (h.heap (g.heap (f.heap (b.heap (d.heap (c.heap H))))))))))))else Y
def kV(G:ai)(N:Nat)(a:aa->aa->aa->aa->ae->O):Nat->aa->aa->aa->aa->ae->O
 |0,_,_,_,_,_=>Y
 |n+1,b,c,d,e,H=>uz G N a (kV G N a n) b c d e H
def OO(G:ai)(N:Nat)(a:aa->aa->aa->aa->ae->O)(c:aa->aa->aa->aa->ae->O):∀C H,aE P G N (an (an (an (af (an (an (an (an (af (af (af (af (af (af (af (af (af (aG Tryz.f203)))))))))))))))))) (λC H=>c (C 0) (C 1) (C 10) (C 11) H) [(8,(λC H=>kT G N a (C 0) (C 1) (C 10) (C 11) H)),(5,(λC H=>a (C 0) (C 1) (C 10) (C 11) H)),(4,(λC H=>ey G N (C 0) (C 1) (C 11) H))] (ay Tryz.f203) C H=uz G N a c (C 0) (C 1) (C 10) (C 11) H:=by
 refine aH (aj _) λC H=> ?_
 delta uz;generalize kT G N a=b;revert b;refine id ?_;intro b;kernel_rfl
def kS(G:ai)(N:Nat)(a:aa->aa->aa->aa->ae->O)(b c:aa)(d e:aa)(H:ae):O:=kV G N a N b c d e H
def OX(G:ai)(N:Nat)(a:aa->aa->aa->aa->ae->O):∀C H,aE P G N (af (an (an (an (an (af (af (af (af (af (af (af (af (af (aG Tryz.f203))))))))))))))) (λC H=>a (C 0) (C 1) (C 10) (C 11) H) [(5,(λC H=>a (C 0) (C 1) (C 10) (C 11) H)),(4,(λC H=>ey G N (C 0) (C 1) (C 11) H))] (ay Tryz.f203) C H=kS G N a (C 0) (C 1) (C 10) (C 11) H:=by
 refine aH ((aq j (OY G N a) ((aT j ((a8 (k:=λm C H=>kV G N a m (C 0) (C 1) (C 10) (C 11) H) j (λC H=>j) (λm=>OO G N a (kV G N a m)))))))) λC H=> ?_
 delta kS;generalize kV G N a N=b;revert b;refine id ?_;intro b;kernel_rfl
def uA(G:ai)(N:Nat)(p:aa->aa->aa->aa->ae->O)(r:aa->aa->aa->aa->ae->O)(l n:aa)(j m:aa)(H:ae):O:=ad (al P .leq 3 U j m) λa=>aK a V (aM l) λc=>aK a V (aM j) λd=>aK a V (az (aF P 30 c.val d.val)) λb=>aK a V (qr (ah P (b.heap (d.heap (c.heap H))) 3 b.val)) λf=>aK a V (aM l) λg=>aK a V (aM n) λh=>aK a V (az (aF P 30 g.val h.val)) λe=>aK a V (qr (ah P (e.heap (h.heap (g.heap (f.heap (b.heap (d.heap (c.heap H))))))) 3 e.val)) λi=>aK a V (λq=>bg (i.heap (e.heap (h.heap (g.heap (f.heap (b.heap (d.heap (c.heap H)))))))) (G 201 [f.val,i.val] (i.heap (e.heap (h.heap (g.heap (f.heap (b.heap (d.heap (c.heap H))))))))) q) λk=>ad (aN a (D k.val) (D (Z U))) λo=>bif b3 [0,0,3,7,15,15,63,127,15,15,783,1807,4095,8191] [0,1,2,3,4,5,6,7,8,9,10,11,12,13] [⟨0,.pure j,λH=>Y⟩,⟨1,.pure m,λH=>Y⟩,⟨2,.pure a,λH=>Y⟩,⟨3,.pure a,λH=>Y⟩,⟨4,c,λH=>Y⟩,⟨5,d,λH=>Y⟩,⟨6,b,λH=>Y⟩,⟨7,f,λH=>ah P H 3 b.val⟩,⟨8,g,λH=>Y⟩,⟨9,h,λH=>Y⟩,⟨10,e,λH=>Y⟩,⟨11,i,λH=>ah P H 3 e.val⟩,⟨12,k,λH=>Y⟩,⟨13,.pure o,λH=>Y⟩] H then(ax (D o) (ad (al P .add 3 V j (I J 1)) λs=>r l n s m (k.heap (i.heap (e.heap (h.heap (g.heap (f.heap (b.heap (d.heap (c.heap H)))))))))) (kS G N p l n j m (k.heap (i.heap (e.heap (h.heap (g.heap (f.heap (b.heap (d.heap (c.heap H)))))))))))else Y
def kW(G:ai)(N:Nat)(a:aa->aa->aa->aa->ae->O):Nat->aa->aa->aa->aa->ae->O
 |0,_,_,_,_,_=>Y
 |n+1,b,c,d,e,H=>uA G N a (kW G N a n) b c d e H
def OQ(G:ai)(N:Nat)(a:aa->aa->aa->aa->ae->O)(c:aa->aa->aa->aa->ae->O):∀C H,aE P G N (an (an (an (an (an (an (an (af (af (af (af (af (af (af (af (af (aG Tryz.f203))))))))))))))))) (λC H=>c (C 0) (C 1) (C 10) (C 11) H) [(6,(λC H=>kS G N a (C 0) (C 1) (C 10) (C 11) H)),(5,(λC H=>a (C 0) (C 1) (C 10) (C 11) H)),(4,(λC H=>ey G N (C 0) (C 1) (C 11) H))] (ay Tryz.f203) C H=uA G N a c (C 0) (C 1) (C 10) (C 11) H:=by
 refine aH (aj _) λC H=> ?_
 delta uA;generalize kS G N a=b;revert b;refine id ?_;intro b;kernel_rfl
def uy(G:ai)(N:Nat)(a:aa->aa->aa->aa->ae->O)(b c:aa)(d e:aa)(H:ae):O:=kW G N a N b c d e H
def kU(G:ai)(N:Nat):Nat->aa->aa->aa->aa->ae->O
 |0,_,_,_,_,_=>Y
 |n+1,a,b,c,d,H=>uy G N (kU G N n) a b c d H
def ON(G:ai)(N:Nat)(a:aa->aa->aa->aa->ae->O):∀C H,aE P G N (an (an (an (af (af (af (af (af (af (af (af (af (aG Tryz.f203))))))))))))) (λC H=>a (C 0) (C 1) (C 10) (C 11) H) [(4,(λC H=>ey G N (C 0) (C 1) (C 11) H))] (ay Tryz.f203) C H=uy G N a (C 0) (C 1) (C 10) (C 11) H:=by
 refine aH ((aT j ((aq j (OX G N a) ((aT j ((a8 (k:=λm C H=>kW G N a m (C 0) (C 1) (C 10) (C 11) H) j (λC H=>j) (λm=>OQ G N a (kW G N a m)))))))))) λC H=> ?_
 delta uy;generalize kW G N a N=b;revert b;refine id ?_;intro b;kernel_rfl
def kR(G:ai)(N:Nat)(a f:aa)(d b:aa)(H:ae):O:=ad (al P .gtr 3 U d b) λg=>ax (D g) (ad (aF P 30 a f) λh=>ad (ah P H 3 h) λi=>ad (aF P 30 a b) λj=>ad (ah P H 3 j) λk=>ad (aF P 30 a b) λl=>aB H (aA P H 3 l i) λc=>ad (aF P 30 a f) λm=>aB c (aA P c 3 m k) λe=>D (.tuple [b,Z V],e)) (ad (aF P 30 a b) λn=>ad (ah P H 3 n) λo=>ad (aF P 30 a d) λp=>ad (ah P H 3 p) λq=>ad (aF P 30 a d) λr=>aB H (aA P H 3 r o) λc=>ad (aF P 30 a b) λs=>aB c (aA P c 3 s q) λe=>ad (al P .add 3 V d (I J 1)) λt=>ad (al P .sub 3 V b (I J 1)) λu=>kU G N N a f t u e)
def OV(G:ai)(N:Nat):∀C H,aE P G N (af (af (af (af (af (aG Tryz.f203)))))) (ay Tryz.f203) [] (ay Tryz.f203) C H=kR G N (C 0) (C 1) (C 10) (C 11) H:=by
 refine aH ((aq j ((aq j ((aq j ((aq j ((aq j (OW G N) ((aT j ((a8 (k:=λm C H=>kU G N m (C 0) (C 1) (C 10) (C 11) H) j (λC H=>j) (λm=>ON G N (kU G N m)))))))) (aj _))) (aj _))) (aj _))) (aj _))) λC H=> ?_
 delta kR;generalize kU G N N=a;revert a;refine id ?_;intro a;kernel_rfl
def uB(G:ai)(N:Nat)(r:aa->aa->aa->aa->ae->O)(m o:aa)(n j:aa)(H:ae):O:=ad (al P .leq 3 U n j) λa=>aK a V (aM m) λc=>aK a V (aM j) λd=>aK a V (az (aF P 30 c.val d.val)) λb=>aK a V (qr (ah P (b.heap (d.heap (c.heap H))) 3 b.val)) λf=>aK a V (aM m) λg=>aK a V (aM o) λh=>aK a V (az (aF P 30 g.val h.val)) λe=>aK a V (qr (ah P (e.heap (h.heap (g.heap (f.heap (b.heap (d.heap (c.heap H))))))) 3 e.val)) λi=>aK a V (λq=>bg (i.heap (e.heap (h.heap (g.heap (f.heap (b.heap (d.heap (c.heap H)))))))) (G 201 [f.val,i.val] (i.heap (e.heap (h.heap (g.heap (f.heap (b.heap (d.heap (c.heap H))))))))) q) λk=>aK a V (az (bt .not k.val)) λl=>ad (aN a (D l.val) (D (Z U))) λp=>bif b3 [0,0,3,7,15,15,63,127,15,15,783,1807,4095,8191,16383] [0,1,2,3,4,5,6,7,8,9,10,11,12,13,14] [⟨0,.pure n,λH=>Y⟩,⟨1,.pure j,λH=>Y⟩,⟨2,.pure a,λH=>Y⟩,⟨3,.pure a,λH=>Y⟩,⟨4,c,λH=>Y⟩,⟨5,d,λH=>Y⟩,⟨6,b,λH=>Y⟩,⟨7,f,λH=>ah P H 3 b.val⟩,⟨8,g,λH=>Y⟩,⟨9,h,λH=>Y⟩,⟨10,e,λH=>Y⟩,⟨11,i,λH=>ah P H 3 e.val⟩,⟨12,k,λH=>Y⟩,⟨13,l,λH=>Y⟩,⟨14,.pure p,λH=>Y⟩] H then(ax (D p) (ad (al P .sub 3 V j (I J 1)) λs=>r m o n s (l.heap (k.heap (i.heap (e.heap (h.heap (g.heap (f.heap (b.heap (d.heap (c.heap H))))))))))) (kR G N m o n j (l.heap (k.heap (i.heap (e.heap (h.heap (g.heap (f.heap (b.heap (d.heap (c.heap H))))))))))))else Y
def kX(G:ai)(N:Nat):Nat->aa->aa->aa->aa->ae->O
 |0,_,_,_,_,_=>Y
 |n+1,a,b,c,d,H=>uB G N (kX G N n) a b c d H
def OR(G:ai)(N:Nat)(b:aa->aa->aa->aa->ae->O):∀C H,aE P G N (an (an (an (af (af (af (af (aG Tryz.f203)))))))) (λC H=>b (C 0) (C 1) (C 10) (C 11) H) [(2,(λC H=>kR G N (C 0) (C 1) (C 10) (C 11) H))] (ay Tryz.f203) C H=uB G N b (C 0) (C 1) (C 10) (C 11) H:=by
 refine aH (aj _) λC H=> ?_
 delta uB;generalize kR G N=a;revert a;refine id ?_;intro a;kernel_rfl
def kQ(G:ai)(N:Nat)(a b:aa)(c d:aa)(H:ae):O:=kX G N N a b c d H
def OU(G:ai)(N:Nat):∀C H,aE P G N (af (af (af (af (aG Tryz.f203))))) (ay Tryz.f203) [] (ay Tryz.f203) C H=kQ G N (C 0) (C 1) (C 10) (C 11) H:=by
 refine aH ((aq j (OV G N) ((aT j ((a8 (k:=λm C H=>kX G N m (C 0) (C 1) (C 10) (C 11) H) j (λC H=>j) (λm=>OR G N (kX G N m)))))))) λC H=> ?_
 delta kQ;generalize kX G N N=a;revert a;refine id ?_;intro a;kernel_rfl
def uC(G:ai)(N:Nat)(p:aa->aa->aa->aa->ae->O)(l n:aa)(j m:aa)(H:ae):O:=ad (al P .leq 3 U j m) λa=>aK a V (aM l) λc=>aK a V (aM j) λd=>aK a V (az (aF P 30 c.val d.val)) λb=>aK a V (qr (ah P (b.heap (d.heap (c.heap H))) 3 b.val)) λf=>aK a V (aM l) λg=>aK a V (aM n) λh=>aK a V (az (aF P 30 g.val h.val)) λe=>aK a V (qr (ah P (e.heap (h.heap (g.heap (f.heap (b.heap (d.heap (c.heap H))))))) 3 e.val)) λi=>aK a V (λq=>bg (i.heap (e.heap (h.heap (g.heap (f.heap (b.heap (d.heap (c.heap H)))))))) (G 201 [f.val,i.val] (i.heap (e.heap (h.heap (g.heap (f.heap (b.heap (d.heap (c.heap H))))))))) q) λk=>ad (aN a (D k.val) (D (Z U))) λo=>bif b3 [0,0,3,7,15,15,63,127,15,15,783,1807,4095,8191] [0,1,2,3,4,5,6,7,8,9,10,11,12,13] [⟨0,.pure j,λH=>Y⟩,⟨1,.pure m,λH=>Y⟩,⟨2,.pure a,λH=>Y⟩,⟨3,.pure a,λH=>Y⟩,⟨4,c,λH=>Y⟩,⟨5,d,λH=>Y⟩,⟨6,b,λH=>Y⟩,⟨7,f,λH=>ah P H 3 b.val⟩,⟨8,g,λH=>Y⟩,⟨9,h,λH=>Y⟩,⟨10,e,λH=>Y⟩,⟨11,i,λH=>ah P H 3 e.val⟩,⟨12,k,λH=>Y⟩,⟨13,.pure o,λH=>Y⟩] H then(ax (D o) (ad (al P .add 3 V j (I J 1)) λr=>p l n r m (k.heap (i.heap (e.heap (h.heap (g.heap (f.heap (b.heap (d.heap (c.heap H)))))))))) (kQ G N l n j m (k.heap (i.heap (e.heap (h.heap (g.heap (f.heap (b.heap (d.heap (c.heap H)))))))))))else Y
def kY(G:ai)(N:Nat):Nat->aa->aa->aa->aa->ae->O
 |0,_,_,_,_,_=>Y
 |n+1,a,b,c,d,H=>uC G N (kY G N n) a b c d H
def OS(G:ai)(N:Nat)(b:aa->aa->aa->aa->ae->O):∀C H,aE P G N (an (an (an (af (af (af (aG Tryz.f203))))))) (λC H=>b (C 0) (C 1) (C 10) (C 11) H) [(0,(λC H=>kQ G N (C 0) (C 1) (C 10) (C 11) H))] (ay Tryz.f203) C H=uC G N b (C 0) (C 1) (C 10) (C 11) H:=by
 refine aH (aj _) λC H=> ?_
 delta uC;generalize kQ G N=a;revert a;refine id ?_;intro a;kernel_rfl
def pw(G:ai)(N:Nat)(a b:aa)(h d:aa)(H:ae):O:=ad (aF P 30 a d) λf=>ad (ah P H 3 f) λg=>ad (aF P 30 a b) λi=>ad (ah P H 3 i) λj=>ad (aF P 30 a b) λk=>aB H (aA P H 3 k g) λc=>ad (aF P 30 a d) λl=>aB c (aA P c 3 l j) λe=>ad (al P .add 3 V b (I J 1)) λm=>ad (al P .sub 3 V h (I J 1)) λn=>kY G N N a b m n e
def OT(G:ai)(N:Nat)(b:aa)(c:aa)(d:aa)(e:aa)(H:ae):aD Tryz.f203 G N (aP [b,c,d,e]) H=pw G N b c d e H:=by
 refine aS (A:=aD Tryz.f203 G N) ((aq j ((aq j ((aq j ((aq j (OU G N) ((aT j ((a8 (k:=λm C H=>kY G N m (C 0) (C 1) (C 10) (C 11) H) j (λC H=>j) (λm=>OS G N (kY G N m)))))))) (aj _))) (aj _))) (aj _))) ?_;delta pw;generalize kY G N N=a;revert a;refine id ?_;intro a;kernel_rfl
def k0(G:ai)(a f:aa)(H:ae):O:=ec P 271 5 a H λb=>ad (cj P 9 (X [0,1,2,2,3,3,3,3,4,4,4,4,4,4,4,4,5,5,5,5,5,5,5,5,5,5,5,5,5,5,5,5,6,6,6,6,6,6,6,6,6,6,6,6,6,6,6,6,6,6,6,6,6,6,6,6,6,6,6,6,6,6,6,6,7,7,7,7,7,7,7,7,7,7,7,7,7,7,7,7,7,7,7,7,7,7,7,7,7,7,7,7,7,7,7,7,7,7,7,7,7,7,7,7,7,7,7,7,7,7,7,7,7,7,7,7,7,7,7,7,7,7,7,7,7,7,7,7,8,8,8,8,8,8,8,8,8,8,8,8,8,8,8,8,8,8,8,8,8,8,8,8,8,8,8,8,8,8,8,8,8,8,8,8,8,8,8,8,8,8,8,8,8,8,8,8,8,8,8,8,8,8,8,8,8,8,8,8,8,8,8,8,8,8,8,8,8,8,8,8,8,8,8,8,8,8,8,8,8,8,8,8,8,8,8,8,8,8,8,8,8,8,8,8,8,8,8,8,8,8,8,8,8,8,8,8,8,8,8,8,8,8,8,8,8,8,8,8,8,8,8,8,8,8,8,8]) b) λc=>ec P 5 3 c H λd=>ad (al P .add 3 U f d) λe=>D (e,H)
def O1(G:ai)(N:Nat):∀C H,aE P G N (af (af (af (aG Tryz.f204)))) (ay Tryz.f204) [] (ay Tryz.f204) C H=k0 G (C 0) (C 2) H:=by
 refine aH (aj _) λC H=> ?_
 delta k0;kernel_rfl
def kZ(G:ai)(a b:aa)(H:ae):O:=ad (al P .geq 271 V a (I .u32 256)) λe=>ax (D e) (ad (al P .shr 271 V a (I .u64 8)) λc=>ad (al P .add 3 V b (I J 8)) λd=>k0 G c d H) (k0 G a b H)
def O0(G:ai)(N:Nat):∀C H,aE P G N (af (af (aG Tryz.f204))) (ay Tryz.f204) [] (ay Tryz.f204) C H=kZ G (C 0) (C 2) H:=by
 refine aH ((aq j (O1 G N) (aj _))) λC H=> ?_
 delta kZ;generalize k0 G=a;revert a;refine id ?_;intro a;kernel_rfl
def px(G:ai)(a:aa)(H:ae):O:=ad (al P .geq 271 V a (I .u32 65536)) λb=>ax (D b) (ad (al P .shr 271 V a (I .u64 16)) λc=>kZ G c (I J 16) H) (kZ G a (I J 0) H)
def OZ(G:ai)(N:Nat)(b:aa)(H:ae):aD Tryz.f204 G N (aP [b]) H=px G b H:=by
 refine aS (A:=aD Tryz.f204 G N) ((aq j ((aq j (O0 G N) (aj _))) (aj _))) ?_;delta px;generalize kZ G=a;revert a;refine id ?_;intro a;kernel_rfl
def k3(G:ai)(a b:aa)(H:ae):O:=ec P 251 5 a H λc=>ad (cj P 9 (X [0,1,2,2,3,3,3,3,4,4,4,4,4,4,4,4,5,5,5,5,5,5,5,5,5,5,5,5,5,5,5,5,6,6,6,6,6,6,6,6,6,6,6,6,6,6,6,6,6,6,6,6,6,6,6,6,6,6,6,6,6,6,6,6,7,7,7,7,7,7,7,7,7,7,7,7,7,7,7,7,7,7,7,7,7,7,7,7,7,7,7,7,7,7,7,7,7,7,7,7,7,7,7,7,7,7,7,7,7,7,7,7,7,7,7,7,7,7,7,7,7,7,7,7,7,7,7,7,8,8,8,8,8,8,8,8,8,8,8,8,8,8,8,8,8,8,8,8,8,8,8,8,8,8,8,8,8,8,8,8,8,8,8,8,8,8,8,8,8,8,8,8,8,8,8,8,8,8,8,8,8,8,8,8,8,8,8,8,8,8,8,8,8,8,8,8,8,8,8,8,8,8,8,8,8,8,8,8,8,8,8,8,8,8,8,8,8,8,8,8,8,8,8,8,8,8,8,8,8,8,8,8,8,8,8,8,8,8,8,8,8,8,8,8,8,8,8,8,8,8,8,8,8,8,8,8]) c) λd=>ec P 5 3 d H λe=>ad (al P .add 3 U b e) λf=>D (f,H)
def O5(G:ai)(N:Nat):∀C H,aE P G N (af (af (af (af (aG Tryz.f205))))) (ay Tryz.f205) [] (ay Tryz.f205) C H=k3 G (C 0) (C 2) H:=by
 refine aH (aj _) λC H=> ?_
 delta k3;kernel_rfl
def k2(G:ai)(a b:aa)(H:ae):O:=ad (al P .geq 251 V a (I .u64 256)) λc=>ax (D c) (ad (al P .shr 251 V a (I .u64 8)) λd=>ad (al P .add 3 V b (I J 8)) λe=>k3 G d e H) (k3 G a b H)
def O4(G:ai)(N:Nat):∀C H,aE P G N (af (af (af (aG Tryz.f205)))) (ay Tryz.f205) [] (ay Tryz.f205) C H=k2 G (C 0) (C 2) H:=by
 refine aH ((aq j (O5 G N) (aj _))) λC H=> ?_
 delta k2;generalize k3 G=a;revert a;refine id ?_;intro a;kernel_rfl
def k1(G:ai)(a b:aa)(H:ae):O:=ad (al P .geq 251 V a (I .u64 65536)) λe=>ax (D e) (ad (al P .shr 251 V a (I .u64 16)) λc=>ad (al P .add 3 V b (I J 16)) λd=>k2 G c d H) (k2 G a b H)
def O3(G:ai)(N:Nat):∀C H,aE P G N (af (af (aG Tryz.f205))) (ay Tryz.f205) [] (ay Tryz.f205) C H=k1 G (C 0) (C 2) H:=by
 refine aH ((aq j (O4 G N) (aj _))) λC H=> ?_
 delta k1;generalize k2 G=a;revert a;refine id ?_;intro a;kernel_rfl
def py(G:ai)(a:aa)(H:ae):O:=ad (al P .geq 251 V a (I .u64 4294967296)) λb=>ax (D b) (ad (al P .shr 251 V a (I .u64 32)) λc=>k1 G c (I J 32) H) (k1 G a (I J 0) H)
def O2(G:ai)(N:Nat)(b:aa)(H:ae):aD Tryz.f205 G N (aP [b]) H=py G b H:=by
 refine aS (A:=aD Tryz.f205 G N) ((aq j ((aq j (O3 G N) (aj _))) (aj _))) ?_;delta py;generalize k1 G=a;revert a;refine id ?_;intro a;kernel_rfl
def lA(G:ai)(N:Nat)(g:aa->aa->aa->aa->ae->O)(a i:aa)(b e d:aa)(H:ae):O:=ad (al P .add 3 U b e) λj=>ad (aF P 30 a j) λk=>ad (ah P H 3 k) λl=>ad (al P .add 3 U b d) λm=>ad (aF P 30 a m) λn=>ad (ah P H 3 n) λo=>au H (G 201 [l,o] H) λp c=>ad (bt .not p) λq=>ax (D q) (D (.tuple [],c)) (ad (al P .add 3 U b e) λr=>ad (al P .add 3 U b d) λt=>ad (aF P 30 a t) λu=>ad (ah P c 3 u) λv=>ad (al P .add 3 U b e) λw=>ad (aF P 30 a w) λx=>ad (ah P c 3 x) λy=>ad (aF P 30 a r) λz=>aB c (aA P c 3 z v) λf=>ad (al P .add 3 U b d) λs=>ad (aF P 30 a s) λA=>aB f (aA P f 3 A y) λh=>g a i b d h)
def P6(G:ai)(N:Nat)(a:aa->aa->aa->aa->ae->O):∀C H,aE P G N (af (af (af (an (an (an (af (aG Tryz.f229)))))))) (λC H=>a (C 0) (C 2) (C 3) (C 8) H) [(1,(λC H=>a (C 0) (C 2) (C 3) (C 8) H)),(0,(ay Tryz.f229))] (ay Tryz.f229) C H=lA G N a (C 0) (C 2) (C 3) (C 8) (C 9) H:=by
 refine aH (aj _) λC H=> ?_
 delta lA;kernel_rfl
def uN(G:ai)(N:Nat)(v:aa->aa->aa->aa->ae->O)(s p:aa)(t u:aa)(H:ae):O:=ad (al P .mul 3 V (I J 2) u) λy=>ad (al P .add 3 V y (I J 1)) λn=>ad (al P .geq 3 U n p) λz=>ax (D z) (D (.tuple [],H)) (ad (al P .add 3 V n (I J 1)) λw=>ad (al P .lss 3 U w p) λa=>aK a V (aM s) λc=>aK a V (aM t) λd=>aK a V (aM n) λf=>aK a V (az (al P .add 3 U d.val f.val)) λg=>aK a V (az (aF P 30 c.val g.val)) λb=>aK a V (qr (ah P (b.heap (g.heap (f.heap (d.heap (c.heap H))))) 3 b.val)) λi=>aK a V (aM s) λj=>aK a V (aM t) λk=>aK a V (aM n) λl=>aK a V (az (al P .add 3 U k.val l.val)) λm=>aK a V (az (al P .add 3 V m.val (I J 1))) λh=>aK a V (az (aF P 30 j.val h.val)) λe=>aK a V (qr (ah P (e.heap (h.heap (m.heap (l.heap (k.heap (j.heap (i.heap (b.heap (g.heap (f.heap (d.heap (c.heap H)))))))))))) 3 e.val)) λo=>aK a V (λq=>bg (o.heap (e.heap (h.heap (m.heap (l.heap (k.heap (j.heap (i.heap (b.heap (g.heap (f.heap (d.heap (c.heap H))))))))))))) (G 201 [i.val,o.val] (o.heap (e.heap (h.heap (m.heap (l.heap (k.heap (j.heap (i.heap (b.heap (g.heap (f.heap (d.heap (c.heap H)))))))))))))) q) λr=>ad (aN a (D r.val) (D (Z U))) λx=>bif b3 [0,1,0,7,15,31,31,31,223,511,1023,31,31,31,12319,28703,63519,129055,262143,524287] [0,1,2,3,4,5,6,7,8,9,10,11,12,13,14,15,16,17,18,19] [⟨0,.pure n,λH=>Y⟩,⟨1,.pure w,λH=>Y⟩,⟨2,.pure p,λH=>Y⟩,⟨3,.pure a,λH=>Y⟩,⟨4,.pure a,λH=>Y⟩,⟨5,c,λH=>Y⟩,⟨6,d,λH=>Y⟩,⟨7,f,λH=>Y⟩,⟨8,g,λH=>Y⟩,⟨9,b,λH=>Y⟩,⟨10,i,λH=>ah P H 3 b.val⟩,⟨11,j,λH=>Y⟩,⟨12,k,λH=>Y⟩,⟨13,l,λH=>Y⟩,⟨14,m,λH=>Y⟩,⟨15,h,λH=>Y⟩,⟨16,e,λH=>Y⟩,⟨17,o,λH=>ah P H 3 e.val⟩,⟨18,r,λH=>Y⟩,⟨19,.pure x,λH=>Y⟩] H then(ax (D x) (ad (al P .add 3 V n (I J 1)) λA=>lA G N v s p t u A (r.heap (o.heap (e.heap (h.heap (m.heap (l.heap (k.heap (j.heap (i.heap (b.heap (g.heap (f.heap (d.heap (c.heap H))))))))))))))) (lA G N v s p t u n (r.heap (o.heap (e.heap (h.heap (m.heap (l.heap (k.heap (j.heap (i.heap (b.heap (g.heap (f.heap (d.heap (c.heap H))))))))))))))))else Y)
def lB(G:ai)(N:Nat):Nat->aa->aa->aa->aa->ae->O
 |0,_,_,_,_,_=>Y
 |n+1,a,b,c,d,H=>uN G N (lB G N n) a b c d H
def P4(G:ai)(N:Nat)(a:aa->aa->aa->aa->ae->O):∀C H,aE P G N (an (an (af (aG Tryz.f229)))) (λC H=>a (C 0) (C 2) (C 3) (C 8) H) [(0,(ay Tryz.f229))] (ay Tryz.f229) C H=uN G N a (C 0) (C 2) (C 3) (C 8) H:=by
 refine aH ((aT j ((aq j ((aq j ((aq j (P6 G N a) (aj _))) (aj _))) (aj _))))) λC H=> ?_
 delta uN;generalize lA G N a=b;revert b;refine id ?_;intro b;kernel_rfl
def pX(G:ai)(N:Nat)(a b:aa)(c d:aa)(H:ae):O:=lB G N N a c d b H
def P5(G:ai)(N:Nat)(b:aa)(c:aa)(d:aa)(e:aa)(H:ae):aD Tryz.f229 G N (aP [b,c,d,e]) H=pX G N b c d e H:=by
 refine aS (A:=aD Tryz.f229 G N) ((aq j ((aT j ((a8 (k:=λm C H=>lB G N m (C 0) (C 2) (C 3) (C 8) H) j (λC H=>j) (λm=>P4 G N (lB G N m)))))) (aj _))) ?_;delta pX;generalize lB G N N=a;revert a;refine id ?_;intro a;kernel_rfl
def pY(G:ai)(b:aa)(H:ae):O:=ec P 3 217 b H λc=>au H (G 145 [c] H) λd a=>ad (al P .shl 217 V (I .u64 1) d) λe=>D (e,a)
def P8(G:ai)(N:Nat)(a:aa)(H:ae):aD Tryz.f230 G N (aP [a]) H=pY G a H:=by
 refine aS (A:=aD Tryz.f230 G N) (aj _) ?_;delta pY;kernel_rfl
def pZ(G:ai)(a:aa)(H:ae):O:=ad (aL a) λw=>ad (ah P H 294 w) λx=>ad (aL a) λy=>ad (ah P H 294 y) λz=>ad (al P .shl 294 V z (I .u64 13)) λA=>ad (al P .xor 294 U x A) λe=>ad (aL a) λf=>aB H (aA P H 294 f e) λb=>ad (aL a) λg=>ad (ah P b 294 g) λh=>ad (aL a) λi=>ad (ah P b 294 i) λj=>ad (al P .shr 294 V j (I .u64 7)) λk=>ad (al P .xor 294 U h k) λl=>ad (aL a) λm=>aB b (aA P b 294 m l) λc=>ad (aL a) λn=>ad (ah P c 294 n) λo=>ad (aL a) λp=>ad (ah P c 294 p) λq=>ad (al P .shl 294 V q (I .u64 17)) λr=>ad (al P .xor 294 U o r) λs=>ad (aL a) λt=>aB c (aA P c 294 t s) λd=>ad (aL a) λu=>ad (ah P d 294 u) λv=>D (v,d)
def P9(G:ai)(N:Nat)(a:aa)(H:ae):aD Tryz.f231 G N (aP [a]) H=pZ G a H:=by
 refine aS (A:=aD Tryz.f231 G N) (aj _) ?_;delta pZ;kernel_rfl
def p0(G:ai)(c a f:aa)(H:ae):O:=ad (al P .sub 3 V a (I J 1)) λg=>ad (al P .add 3 V a (I J 1)) λd=>au H (G 233 [c,g,a,d,f] H) λe b=>D (e,b)
def P_(G:ai)(N:Nat)(a:aa)(b:aa)(c:aa)(H:ae):aD Tryz.f232 G N (aP [a,b,c]) H=p0 G a b c H:=by
 refine aS (A:=aD Tryz.f232 G N) (aj _) ?_;delta p0;kernel_rfl
def p1(G:ai)(a i:aa)(l n b:aa)(H:ae):O:=au H (G 254 [a,i,l,b] H) λe c=>ad (bG e 0) λj=>ad (bG e 1) λk=>au c (G 254 [a,k,n,b] c) λf d=>ad (bG f 0) λm=>ad (bG f 1) λp=>au d (G 254 [a,j,m,b] d) λg h=>ad (bG g 0) λq=>ad (bG g 1) λo=>D (o,h)
def Qa(G:ai)(N:Nat)(a:aa)(b:aa)(c:aa)(d:aa)(e:aa)(H:ae):aD Tryz.f233 G N (aP [a,b,c,d,e]) H=p1 G a b c d e H:=by
 refine aS (A:=aD Tryz.f233 G N) (aj _) ?_;delta p1;kernel_rfl
def p2(G:ai)(a:aa)(H:ae):O:=ad (al P .neq 3 U a a) λb=>D (b,H)
def Qb(G:ai)(N:Nat)(a:aa)(H:ae):aD Tryz.f234 G N (aP [a]) H=p2 G a H:=by
 refine aS (A:=aD Tryz.f234 G N) (aj _) ?_;delta p2;kernel_rfl
def ql(G:ai)(d b:aa)(c e:aa)(H:ae):O:=ad (aF P 30 d c) λg=>ad (ah P H 3 g) λh=>ad (aF P 30 d b) λi=>ad (ah P H 3 i) λj=>au H (G 201 [h,j] H) λk a=>ax (D k) (ad (aL e) λl=>ad (ah P a 3 l) λm=>ad (al P .add 3 V m (I J 1)) λn=>ad (aL e) λo=>aB a (aA P a 3 o n) λf=>D (.tuple [c,b],f)) (D (.tuple [b,c],a))
def QZ(G:ai)(N:Nat)(a:aa)(b:aa)(c:aa)(d:aa)(H:ae):aD Tryz.f254 G N (aP [a,b,c,d]) H=ql G a b c d H:=by
 refine aS (A:=aD Tryz.f254 G N) (aj _) ?_;delta ql;kernel_rfl
def ox(G:ai)(b:aa)(H:ae):O:=ax (D (Z U)) (ec P 217 271 b H λc=>au H (G 204 [c] H) λd a=>D (d,a)) (au H (G 205 [b] H) λe a=>D (e,a))
def LY(G:ai)(N:Nat)(a:aa)(H:ae):aD Tryz.f145 G N (aP [a]) H=ox G a H:=by
 refine aS (A:=aD Tryz.f145 G N) (aj _) ?_;delta ox;kernel_rfl
