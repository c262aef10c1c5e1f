/-
  Texts of one proof, laid together: ShF ShG.
-/
import Derived.Test.YtmhhnnklfcbgfaaGreatME
set_option linter.unusedVariables false
set_option linter.unusedSimpArgs false
set_option linter.defProp false
open Option renaming some→D,none→Y
open Bool renaming true→V,false→U
open Go.bN.aa renaming int→I,bool→Z
open Go.IntKind renaming i64→J
namespace Go.Proofs.YtmhhnnklfcbgfaaGreat
open Go.bN
section
set_option maxRecDepth 100000
noncomputable section
def eZ(G:ai)(N:Nat)(b d:aa)(H:ae):O:=ad (ah P H 33 d) λc=>aB H (aA P H 33 b c) λa=>ad (ah P a 33 b) λr=>D (.tuple [r,I J 0],a)
def LF(G:ai)(N:Nat):∀C H,aE P G N (af (af (af (af (af (af (af (af (af (af (aG Tryz.f132))))))))))) (ay Tryz.f132) [] (ay Tryz.f132) C H=eZ G N (C 2) (C 8) H:=by
 refine aH (aj _) λC H=> ?_
 delta eZ;kernel_rfl
def fM(G:ai)(N:Nat)(a:aa->aa->aa->aa->aa->aa->ae->O)(b d:aa)(e f:aa)(g h:aa)(H:ae):O:=ad (al P .add 3 V h (I J 1)) λc=>a b d e f g c H
def LG(G:ai)(N:Nat)(a:aa->aa->aa->aa->aa->aa->ae->O):∀C H,aE P G N (af (af (af (an (an (af (an (af (af (af (af (af (af (af (af (af (aG Tryz.f132))))))))))))))))) (λC H=>a (C 1) (C 2) (C 8) (C 87) (C 88) (C 89) H) [(10,(λC H=>eZ G N (C 2) (C 8) H))] (ay Tryz.f132) C H=fM G N a (C 1) (C 2) (C 8) (C 87) (C 88) (C 89) H:=by
 refine aH (aj _) λC H=> ?_
 delta fM;kernel_rfl
def iV(G:ai)(N:Nat)(d:aa->aa->aa->aa->aa->aa->ae->O)(f m:aa)(a l:aa)(n o p:aa)(H:ae):O:=ad (ak P 33 a 3) λg=>ad (ah P H 31 g) λh=>aO H (bl P (H).next 31 1 [(0,l)]) λi b=>au b (bJ P b [31,31] h i) λj c=>ad (ak P 33 a 3) λk=>aB c (aA P c 31 k j) λe=>fM G N d f m a n o p e
def LH(G:ai)(N:Nat)(a:aa->aa->aa->aa->aa->aa->ae->O):∀C H,aE P G N (af (af (af (an (an (af (af (an (an (af (an (af (af (af (af (af (af (af (af (af (aG Tryz.f132))))))))))))))))))))) (λC H=>fM G N a (C 1) (C 2) (C 8) (C 87) (C 88) (C 89) H) [(11,(λC H=>fM G N a (C 1) (C 2) (C 8) (C 87) (C 88) (C 89) H)),(10,(λC H=>eZ G N (C 2) (C 8) H))] (ay Tryz.f132) C H=iV G N a (C 1) (C 2) (C 8) (C 17) (C 87) (C 88) (C 89) H:=by
 refine aH (aj _) λC H=> ?_
 delta iV;generalize fM G N a=b;revert b;refine id ?_;intro b;kernel_rfl
def tt(G:ai)(N:Nat)(p:aa->aa->aa->aa->aa->aa->ae->O)(q:aa->aa->aa->aa->aa->aa->aa->aa->aa->aa->ae->O)(b l:aa)(f j:aa)(k m:aa)(n o:aa)(i c:aa)(H:ae):O:=ad (al P .lss 3 U c i) λs=>ax (D s) (ad (ah P H 154 b) λt=>au H (G 191 [t,j,c] H) λu a=>ad (ak P 33 f 1) λd=>ad (ah P a 30 d) λe=>au a (G 190 [e,u] a) λv g=>aO g (bl P (g).next 30 1 [(0,v)]) λw h=>au h (bJ P h [30,30] k w) λx r=>bif ((aJ (ah P H 30 d) e&&(aJ (ah P a 30 d) e&&V))&&V)then(ad (al P .add 3 V c (I J 1)) λy=>q b l f j x m n o i y r)else Y) (iV G N p b l f k m n o H)
def ja(G:ai)(N:Nat)(a:aa->aa->aa->aa->aa->aa->ae->O):Nat->aa->aa->aa->aa->aa->aa->aa->aa->aa->aa->ae->O
 |0,_,_,_,_,_,_,_,_,_,_,_=>Y
 |n+1,b,g,h,e,f,i,j,k,c,d,H=>tt G N a (ja G N a n) b g h e f i j k c d H
def Lw(G:ai)(N:Nat)(a:aa->aa->aa->aa->aa->aa->ae->O)(c:aa->aa->aa->aa->aa->aa->aa->aa->aa->aa->ae->O):∀C H,aE P G N (an (an (af (an (af (af (an (an (af (af (an (an (af (an (af (af (af (af (af (af (af (af (af (aG Tryz.f132)))))))))))))))))))))))) (λC H=>c (C 1) (C 2) (C 8) (C 16) (C 17) (C 87) (C 88) (C 89) (C 100) (C 101) H) [(12,(λC H=>iV G N a (C 1) (C 2) (C 8) (C 17) (C 87) (C 88) (C 89) H)),(11,(λC H=>fM G N a (C 1) (C 2) (C 8) (C 87) (C 88) (C 89) H)),(10,(λC H=>eZ G N (C 2) (C 8) H))] (ay Tryz.f132) C H=tt G N a c (C 1) (C 2) (C 8) (C 16) (C 17) (C 87) (C 88) (C 89) (C 100) (C 101) H:=by
 refine aH (aj _) λC H=> ?_
 delta tt;generalize iV G N a=b;revert b;refine id ?_;intro b;kernel_rfl
def tr(G:ai)(N:Nat)(h:aa->aa->aa->aa->aa->aa->ae->O)(b c:aa)(d e:aa)(f a:aa)(H:ae):O:=ad (al P .lss 3 U a f) λj=>ax (D j) (ad (aF P 31 e a) λk=>ad (ah P H 30 k) λg=>ad (ak P 154 b 1) λl=>ad (ah P H 152 l) λm=>ad (aF P 30 g (I J 0)) λn=>ad (ah P H 3 n) λo=>ad (aF P 152 m o) λp=>ad (ah P H 31 p) λq=>aZ P .len [31] [q] H λi=>ja G N h N b c d g aa.ar e f a i (I J 0) H) (eZ G N c d H)
def i_(G:ai)(N:Nat):Nat->aa->aa->aa->aa->aa->aa->ae->O
 |0,_,_,_,_,_,_,_=>Y
 |n+1,a,b,c,d,e,f,H=>tr G N (i_ G N n) a b c d e f H
def Lv(G:ai)(N:Nat)(a:aa->aa->aa->aa->aa->aa->ae->O):∀C H,aE P G N (an (an (af (an (af (af (af (af (af (af (af (af (af (aG Tryz.f132)))))))))))))) (λC H=>a (C 1) (C 2) (C 8) (C 87) (C 88) (C 89) H) [(10,(λC H=>eZ G N (C 2) (C 8) H))] (ay Tryz.f132) C H=tr G N a (C 1) (C 2) (C 8) (C 87) (C 88) (C 89) H:=by
 refine aH ((aq j ((aq j ((aq j (LG G N a) ((aT j ((aq j ((aq j ((aq j (LH G N a) ((aq j ((aT j ((a8 (k:=λm C H=>ja G N a m (C 1) (C 2) (C 8) (C 16) (C 17) (C 87) (C 88) (C 89) (C 100) (C 101) H) j (λC H=>j) (λm=>Lw G N a (ja G N a m)))))) (aj _))))) (aj _))) (aj _))))))) (aj _))) (aj _))) λC H=> ?_
 delta tr;generalize eZ G N=b;generalize ja G N a N=c;revert b c;refine id ?_;intro b c;kernel_rfl
def iU(G:ai)(N:Nat)(b c:aa)(a d:aa)(H:ae):O:=aZ P .len [31] [a] H λe=>i_ G N N b c d a e (I J 0) H
def LD(G:ai)(N:Nat):∀C H,aE P G N (af (af (af (af (af (af (af (af (af (aG Tryz.f132)))))))))) (ay Tryz.f132) [] (ay Tryz.f132) C H=iU G N (C 1) (C 2) (C 7) (C 8) H:=by
 refine aH ((aq j (LF G N) ((aq j ((aT j ((a8 (k:=λm C H=>i_ G N m (C 1) (C 2) (C 8) (C 87) (C 88) (C 89) H) j (λC H=>j) (λm=>Lv G N (i_ G N m)))))) (aj _))))) λC H=> ?_
 delta iU;generalize i_ G N N=a;revert a;refine id ?_;intro a;kernel_rfl
def tv(G:ai)(N:Nat)(m:aa->aa->aa->aa->aa->aa->aa->ae->O)(h i:aa)(j a:aa)(k l f:aa)(H:ae):O:=ad (al P .lss 3 U f l) λo=>ax (D o) (ad (aF P 31 k f) λp=>ad (ah P H 30 p) λq=>ad (ak P 33 a 1) λr=>ad (ah P H 30 r) λs=>au H (G 190 [s,q] H) λt b=>ad (ak P 33 a 2) λc=>ad (ah P b 30 c) λd=>aO b (bl P (b).next 30 1 [(0,t)]) λu e=>au e (bJ P e [30,30] d u) λv g=>ad (ak P 33 a 2) λw=>aB g (aA P g 30 w v) λn=>bif ((aJ (ah P H 30 c) d&&(aJ (ah P b 30 c) d&&(aJ (ah P e 30 c) d&&V)))&&V)then(ad (al P .add 3 V f (I J 1)) λx=>m h i j a k l x n)else Y) (iU G N h i j a H)
def jb(G:ai)(N:Nat):Nat->aa->aa->aa->aa->aa->aa->aa->ae->O
 |0,_,_,_,_,_,_,_,_=>Y
 |n+1,a,b,c,g,d,e,f,H=>tv G N (jb G N n) a b c g d e f H
def Lx(G:ai)(N:Nat)(b:aa->aa->aa->aa->aa->aa->aa->ae->O):∀C H,aE P G N (an (an (af (an (af (af (af (af (af (af (af (af (aG Tryz.f132))))))))))))) (λC H=>b (C 1) (C 2) (C 7) (C 8) (C 71) (C 72) (C 73) H) [(8,(λC H=>iU G N (C 1) (C 2) (C 7) (C 8) H))] (ay Tryz.f132) C H=tv G N b (C 1) (C 2) (C 7) (C 8) (C 71) (C 72) (C 73) H:=by
 refine aH (aj _) λC H=> ?_
 delta tv;generalize iU G N=a;revert a;refine id ?_;intro a;kernel_rfl
def fL(G:ai)(N:Nat)(a c:aa)(d g:aa)(H:ae):O:=ad (ak P 154 a 0) λe=>ad (ah P H 31 e) λb=>aZ P .len [31] [b] H λf=>jb G N N a c d g b f (I J 0) H
def LC(G:ai)(N:Nat):∀C H,aE P G N (af (af (af (af (af (af (af (af (aG Tryz.f132))))))))) (ay Tryz.f132) [] (ay Tryz.f132) C H=fL G N (C 1) (C 2) (C 7) (C 8) H:=by
 refine aH ((aq j (LD G N) ((aq j ((aT j ((a8 (k:=λm C H=>jb G N m (C 1) (C 2) (C 7) (C 8) (C 71) (C 72) (C 73) H) j (λC H=>j) (λm=>Lx G N (jb G N m)))))) (aj _))))) λC H=> ?_
 delta fL;generalize jb G N N=a;revert a;refine id ?_;intro a;kernel_rfl
def gU(G:ai)(N:Nat)(a:aa->aa->aa->aa->aa->aa->aa->ae->O)(b c:aa)(h i:aa)(d e f:aa)(H:ae):O:=ad (al P .add 3 V f (I J 1)) λg=>a b c h i d e g H
def LA(G:ai)(N:Nat)(a:aa->aa->aa->aa->aa->aa->aa->ae->O):∀C H,aE P G N (af (af (af (an (an (af (an (af (af (af (af (af (af (af (aG Tryz.f132))))))))))))))) (λC H=>a (C 1) (C 2) (C 7) (C 8) (C 50) (C 51) (C 52) H) [(4,(λC H=>fL G N (C 1) (C 2) (C 7) (C 8) H))] (ay Tryz.f132) C H=gU G N a (C 1) (C 2) (C 7) (C 8) (C 50) (C 51) (C 52) H:=by
 refine aH (aj _) λC H=> ?_
 delta gU;kernel_rfl
def tn(G:ai)(N:Nat)(l:aa->aa->aa->aa->aa->aa->aa->ae->O)(m:aa->aa->aa->aa->aa->aa->aa->aa->aa->aa->aa->ae->O)(c d:aa)(j b:aa)(k e:aa)(f g:aa)(h i a:aa)(H:ae):O:=ad (al P .lss 3 U a i) λo=>ax (D o) (ad (aF P 30 h a) λp=>ad (ah P H 3 p) λq=>ad (ak P 33 b 1) λr=>ad (ah P H 30 r) λs=>ad (aF P 30 s q) λt=>aB H (aA P H 3 t k) λn=>ad (al P .add 3 V a (I J 1)) λu=>m c d j b k e f g h i u n) (gU G N l c d j b e f g H)
def iX(G:ai)(N:Nat)(a:aa->aa->aa->aa->aa->aa->aa->ae->O):Nat->aa->aa->aa->aa->aa->aa->aa->aa->aa->aa->aa->ae->O
 |0,_,_,_,_,_,_,_,_,_,_,_,_=>Y
 |n+1,b,c,j,k,l,d,e,f,g,h,i,H=>tn G N a (iX G N a n) b c j k l d e f g h i H
def Ls(G:ai)(N:Nat)(a:aa->aa->aa->aa->aa->aa->aa->ae->O)(c:aa->aa->aa->aa->aa->aa->aa->aa->aa->aa->aa->ae->O):∀C H,aE P G N (an (an (af (af (an (an (af (af (an (an (af (an (af (af (af (af (af (af (af (aG Tryz.f132)))))))))))))))))))) (λC H=>c (C 1) (C 2) (C 7) (C 8) (C 9) (C 50) (C 51) (C 52) (C 57) (C 58) (C 59) H) [(6,(λC H=>gU G N a (C 1) (C 2) (C 7) (C 8) (C 50) (C 51) (C 52) H)),(5,(λC H=>gU G N a (C 1) (C 2) (C 7) (C 8) (C 50) (C 51) (C 52) H)),(4,(λC H=>fL G N (C 1) (C 2) (C 7) (C 8) H))] (ay Tryz.f132) C H=tn G N a c (C 1) (C 2) (C 7) (C 8) (C 9) (C 50) (C 51) (C 52) (C 57) (C 58) (C 59) H:=by
 refine aH (aj _) λC H=> ?_
 delta tn;generalize gU G N a=b;revert b;refine id ?_;intro b;kernel_rfl
def tm(G:ai)(N:Nat)(i:aa->aa->aa->aa->aa->aa->aa->ae->O)(b c:aa)(g h:aa)(d e a:aa)(H:ae):O:=ad (al P .lss 3 U a e) λj=>ax (D j) (ad (aF P 31 d a) λk=>ad (ah P H 30 k) λf=>aZ P .len [30] [f] H λl=>iX G N i N b c g h a d e a f l (I J 0) H) (fL G N b c g h H)
def iW(G:ai)(N:Nat):Nat->aa->aa->aa->aa->aa->aa->aa->ae->O
 |0,_,_,_,_,_,_,_,_=>Y
 |n+1,a,b,f,g,c,d,e,H=>tm G N (iW G N n) a b f g c d e H
def Lr(G:ai)(N:Nat)(a:aa->aa->aa->aa->aa->aa->aa->ae->O):∀C H,aE P G N (an (an (af (an (af (af (af (af (af (af (af (aG Tryz.f132)))))))))))) (λC H=>a (C 1) (C 2) (C 7) (C 8) (C 50) (C 51) (C 52) H) [(4,(λC H=>fL G N (C 1) (C 2) (C 7) (C 8) H))] (ay Tryz.f132) C H=tm G N a (C 1) (C 2) (C 7) (C 8) (C 50) (C 51) (C 52) H:=by
 refine aH ((aq j ((aq j ((aq j (LA G N a) ((aT j ((aq j ((aq j ((aT j ((a8 (k:=λm C H=>iX G N a m (C 1) (C 2) (C 7) (C 8) (C 9) (C 50) (C 51) (C 52) (C 57) (C 58) (C 59) H) j (λC H=>j) (λm=>Ls G N a (iX G N a m)))))) (aj _))) (aj _))))))) (aj _))) (aj _))) λC H=> ?_
 delta tm;generalize fL G N=b;generalize iX G N a N=c;revert b c;refine id ?_;intro b c;kernel_rfl
def iT(G:ai)(N:Nat)(e i j:aa)(H:ae):O:=au H (G 189 [j] H) λb a=>aZ P .len [31] [b] a λk=>ad (ak P 154 e 1) λl=>ad (ah P a 152 l) λm=>aZ P .len [152] [m] a λf=>aO a (cz (cO P ⟨.leaf,(a).next⟩ 30 f f) (a).next) λn h=>ad (bh P 33 [(0,k),(1,n)]) λo=>a7 h [I J 0,aa.ar,aa.ar,aa.ar] λg c=>aB c (aA P c 33 g o) λd=>aZ P .len [31] [b] d λp=>iW G N N e i b g b p (I J 0) d
def LB(G:ai)(N:Nat):∀C H,aE P G N (af (af (af (af (af (aG Tryz.f132)))))) (ay Tryz.f132) [] (ay Tryz.f132) C H=iT G N (C 1) (C 2) (C 4) H:=by
 refine aH ((aq j ((aq j ((aq j (LC G N) ((aq j ((aT j ((a8 (k:=λm C H=>iW G N m (C 1) (C 2) (C 7) (C 8) (C 50) (C 51) (C 52) H) j (λC H=>j) (λm=>Lr G N (iW G N m)))))) (aj _))))) (aj _))) (aj _))) λC H=> ?_
 delta iT;generalize iW G N N=a;revert a;refine id ?_;intro a;kernel_rfl
def tp(G:ai)(N:Nat)(e:aa->aa->aa->ae->O)(a d b:aa)(H:ae):O:=ad (ah P H 154 a) λf=>au H (G 188 [b,f] H) λg c=>ax (D g) (e a d b c) (iT G N a d b c)
def iY(G:ai)(N:Nat):Nat->aa->aa->aa->ae->O
 |0,_,_,_,_=>Y
 |n+1,a,b,c,H=>tp G N (iY G N n) a b c H
def Lt(G:ai)(N:Nat)(b:aa->aa->aa->ae->O):∀C H,aE P G N (an (an (an (af (af (af (af (aG Tryz.f132)))))))) (λC H=>b (C 1) (C 2) (C 4) H) [(2,(λC H=>iT G N (C 1) (C 2) (C 4) H))] (ay Tryz.f132) C H=tp G N b (C 1) (C 2) (C 4) H:=by
 refine aH (aj _) λC H=> ?_
 delta tp;generalize iT G N=a;revert a;refine id ?_;intro a;kernel_rfl
def iS(G:ai)(N:Nat)(a b c:aa)(H:ae):O:=iY G N N a b c H
def Lz(G:ai)(N:Nat):∀C H,aE P G N (af (af (af (af (aG Tryz.f132))))) (ay Tryz.f132) [] (ay Tryz.f132) C H=iS G N (C 1) (C 2) (C 4) H:=by
 refine aH ((aq j (LB G N) ((aT j ((a8 (k:=λm C H=>iY G N m (C 1) (C 2) (C 4) H) j (λC H=>j) (λm=>Lt G N (iY G N m)))))))) λC H=> ?_
 delta iS;generalize iY G N N=a;revert a;refine id ?_;intro a;kernel_rfl
def tq(G:ai)(N:Nat)(g:aa->aa->aa->aa->aa->aa->ae->O)(c d:aa)(b e:aa)(f a:aa)(H:ae):O:=ad (al P .lss 3 U a f) λi=>ax (D i) (ad (aF P 31 e a) λj=>ad (ah P H 30 j) λk=>au H (G 187 [b,k] H) λm h=>ad (al P .add 3 V a (I J 1)) λl=>g c d b e f l h) (iS G N c d b H)
def iZ(G:ai)(N:Nat):Nat->aa->aa->aa->aa->aa->aa->ae->O
 |0,_,_,_,_,_,_,_=>Y
 |n+1,a,b,f,c,d,e,H=>tq G N (iZ G N n) a b f c d e H
def Lu(G:ai)(N:Nat)(b:aa->aa->aa->aa->aa->aa->ae->O):∀C H,aE P G N (an (an (af (an (af (af (af (aG Tryz.f132)))))))) (λC H=>b (C 1) (C 2) (C 4) (C 28) (C 29) (C 30) H) [(0,(λC H=>iS G N (C 1) (C 2) (C 4) H))] (ay Tryz.f132) C H=tq G N b (C 1) (C 2) (C 4) (C 28) (C 29) (C 30) H:=by
 refine aH (aj _) λC H=> ?_
 delta tq;generalize iS G N=a;revert a;refine id ?_;intro a;kernel_rfl
def oo(G:ai)(N:Nat)(h:aa)(H:ae):O:=aO H (bo (H).next h) λc g=>a7 g [I J 0,aa.ar,aa.ar,aa.ar] λe d=>ad (ah P d 154 c) λi=>au d (G 185 [i] d) λj a=>ad (bt .not j) λk=>ax (D k) (aB a (aA P a 33 e (.agg [I J 0,aa.ar,aa.ar,aa.ar])) λb=>ad (ah P b 33 e) λr=>D (.tuple [r,I J 5],b)) (ad (ak P 154 c 1) λl=>ad (ah P a 152 l) λm=>aZ P .len [152] [m] a λn=>au a (G 186 [n] a) λo b=>ad (ak P 154 c 0) λp=>ad (ah P b 31 p) λf=>aZ P .len [31] [f] b λq=>iZ G N N c e o f q (I J 0) b)
def Ly(G:ai)(N:Nat)(b:aa)(H:ae):aD Tryz.f132 G N (aP [b]) H=oo G N b H:=by
 refine aS (A:=aD Tryz.f132 G N) ((aq j ((aq j ((aq j ((aq j (Lz G N) ((aq j ((aT j ((a8 (k:=λm C H=>iZ G N m (C 1) (C 2) (C 4) (C 28) (C 29) (C 30) H) j (λC H=>j) (λm=>Lu G N (iZ G N m)))))) (aj _))))) (aj _))) (aj _))) (aj _))) ?_;delta oo;generalize iZ G N N=a;revert a;refine id ?_;intro a;kernel_rfl
def kd(G:ai)(N:Nat)(H:ae):O:=some ((Z V),H)
def NH(G:ai)(N:Nat):∀C H,aE P G N (af (af (af (af (aG Tryz.f185))))) (ay Tryz.f185) [] (ay Tryz.f185) C H=kd G N H:=by
 refine aH (aj _) λC H=> ?_
 delta kd;kernel_rfl
def tW(G:ai)(N:Nat)(m:aa->aa->aa->aa->aa->ae->O)(h k:aa)(i j d:aa)(H:ae):O:=ad (al P .lss 3 U d j) λs=>ax (D s) (ad (aF P 152 i d) λt=>ad (ah P H 31 t) λe=>aZ P .len [31] [e] H λu=>ad (ak P 154 h 1) λv=>ad (ah P H 152 v) λw=>ad (aF P 152 w (I J 0)) λx=>ad (ah P H 31 x) λy=>aZ P .len [31] [y] H λz=>ad (al P .neq 3 U u z) λb=>ao b U H (aM e) λl f=>ao b U f (λq=>bH (aW P .empty .len [31] [l]) (aW P f .len [31] [l]) q) λA n=>ao b U n (az (al P .gtr 3 V A (I J 8))) λB o=>ad (aN b (D (Z V)) (D B)) λa=>ao a U o (aM e) λC p=>ao a U p (aM k) λE c=>ao a U c (λq=>bg c (G 226 [C,E] c) q) λF r=>ao a U r (az (bt .not F)) λK g=>ad (aN a (D (Z V)) (D K)) λL=>ax (D L) (D ((Z U),g)) (ad (al P .add 3 V d (I J 1)) λM=>m h k i j M g)) (kd G N H)
def ke(G:ai)(N:Nat):Nat->aa->aa->aa->aa->aa->ae->O
 |0,_,_,_,_,_,_=>Y
 |n+1,a,e,b,c,d,H=>tW G N (ke G N n) a e b c d H
def NF(G:ai)(N:Nat)(b:aa->aa->aa->aa->aa->ae->O):∀C H,aE P G N (an (an (af (an (af (af (af (aG Tryz.f185)))))))) (λC H=>b (C 1) (C 3) (C 19) (C 20) (C 21) H) [(0,(λC H=>kd G N H))] (ay Tryz.f185) C H=tW G N b (C 1) (C 3) (C 19) (C 20) (C 21) H:=by
 refine aH (aj _) λC H=> ?_
 delta tW;generalize kd G N=a;revert a;refine id ?_;intro a;kernel_rfl
def pa(G:ai)(N:Nat)(k:aa)(H:ae):O:=aO H (bo (H).next k) λc d=>ad (ak P 154 c 1) λu=>ad (ah P d 152 u) λv=>aZ P .len [152] [v] d λf=>ad (al P .gtr 3 V f (I J 60)) λa=>ao a U d (az (ak P 154 c 0)) λl g=>ao a U g (qr (ah P g 31 l)) λm i=>ao a U i (aM f) λn e=>ao a U e (λq=>bg e (G 226 [m,n] e) q) λo j=>ao a U j (az (bt .not o)) λp b=>ad (aN a (D (Z V)) (D p)) λr=>ax (D r) (D ((Z U),b)) (ad (ak P 154 c 1) λs=>ad (ah P b 152 s) λh=>aZ P .len [152] [h] b λt=>ke G N N c f h t (I J 0) b)
def NG(G:ai)(N:Nat)(b:aa)(H:ae):aD Tryz.f185 G N (aP [b]) H=pa G N b H:=by
 refine aS (A:=aD Tryz.f185 G N) ((aq j ((aq j ((aq j ((aq j (NH G N) ((aq j ((aT j ((a8 (k:=λm C H=>ke G N m (C 1) (C 3) (C 19) (C 20) (C 21) H) j (λC H=>j) (λm=>NF G N (ke G N m)))))) (aj _))))) (aj _))) (aj _))) (aj _))) ?_;delta pa;generalize ke G N N=a;revert a;refine id ?_;intro a;kernel_rfl
def kf(G:ai)(N:Nat)(a:aa)(H:ae):O:=some (a,H)
def NK(G:ai)(N:Nat):∀C H,aE P G N (af (af (af (aG Tryz.f186)))) (ay Tryz.f186) [] (ay Tryz.f186) C H=kf G N (C 3) H:=by
 refine aH (aj _) λC H=> ?_
 delta kf;kernel_rfl
def tX(G:ai)(N:Nat)(d:aa->aa->aa->ae->O)(b c a:aa)(H:ae):O:=ad (al P .lss 3 U a c) λf=>ax (D f) (ad (aL b) λg=>ad (ak P 292 g 0) λh=>ad (ah P H 30 h) λi=>ad (aF P 30 i a) λj=>aB H (aA P H 3 j a) λe=>ad (al P .add 3 V a (I J 1)) λk=>d b c k e) (kf G N b H)
def kg(G:ai)(N:Nat):Nat->aa->aa->aa->ae->O
 |0,_,_,_,_=>Y
 |n+1,c,a,b,H=>tX G N (kg G N n) c a b H
def NI(G:ai)(N:Nat)(b:aa->aa->aa->ae->O):∀C H,aE P G N (an (an (af (an (af (af (aG Tryz.f186))))))) (λC H=>b (C 3) (C 15) (C 16) H) [(0,(λC H=>kf G N (C 3) H))] (ay Tryz.f186) C H=tX G N b (C 3) (C 15) (C 16) H:=by
 refine aH (aj _) λC H=> ?_
 delta tX;generalize kf G N=a;revert a;refine id ?_;intro a;kernel_rfl
def pb(G:ai)(N:Nat)(e:aa)(H:ae):O:=aZ P .max [3,3] [e,I J 0] H λj=>aZ P .min [3,3] [j,I J 10000] H λd=>aO H (cz (cO P ⟨.leaf,(H).next⟩ 30 d d) (H).next) λk b=>ad (bh P 292 [(0,k)]) λl=>aO b (bo (b).next l) λc a=>ad (aL c) λf=>ad (ak P 292 f 0) λg=>ad (ah P a 30 g) λh=>aZ P .len [30] [h] a λi=>kg G N N c i (I J 0) a
def NJ(G:ai)(N:Nat)(b:aa)(H:ae):aD Tryz.f186 G N (aP [b]) H=pb G N b H:=by
 refine aS (A:=aD Tryz.f186 G N) ((aq j ((aq j ((aq j (NK G N) ((aq j ((aT j ((a8 (k:=λm C H=>kg G N m (C 3) (C 15) (C 16) H) j (λC H=>j) (λm=>NI G N (kg G N m)))))) (aj _))))) (aj _))) (aj _))) ?_;delta pb;generalize kg G N N=a;revert a;refine id ?_;intro a;kernel_rfl
def g0(G:ai)(N:Nat)(a:aa)(H:ae):O:=some (a,H)
def NN(G:ai)(N:Nat):∀C H,aE P G N (af (af (af (aG Tryz.f187)))) (ay Tryz.f187) [] (ay Tryz.f187) C H=g0 G N (C 5) H:=by
 refine aH (aj _) λC H=> ?_
 delta g0;kernel_rfl
def kh(G:ai)(N:Nat)(a:aa->aa->aa->aa->aa->aa->ae->O)(b c:aa)(f g:aa)(h d:aa)(H:ae):O:=ad (al P .add 3 V d (I J 1)) λe=>a b c f g h e H
def NP(G:ai)(N:Nat)(a:aa->aa->aa->aa->aa->aa->ae->O):∀C H,aE P G N (af (af (af (an (an (af (an (af (af (aG Tryz.f187)))))))))) (λC H=>a (C 0) (C 1) (C 5) (C 8) (C 9) (C 10) H) [(0,(λC H=>g0 G N (C 5) H))] (ay Tryz.f187) C H=kh G N a (C 0) (C 1) (C 5) (C 8) (C 9) (C 10) H:=by
 refine aH (aj _) λC H=> ?_
 delta kh;kernel_rfl
def tY(G:ai)(N:Nat)(f:aa->aa->aa->aa->aa->aa->ae->O)(b c:aa)(h d:aa)(e a:aa)(H:ae):O:=ad (al P .lss 3 U a e) λi=>ax (D i) (ad (aF P 30 d a) λj=>ad (ah P H 3 j) λk=>ad (aF P 30 c (I J 0)) λl=>ad (ah P H 3 l) λm=>au H (G 227 [b,m,k] H) λn g=>ax (D n) (kh G N f b c (Z V) d e a g) (kh G N f b c h d e a g)) (g0 G N h H)
def ki(G:ai)(N:Nat):Nat->aa->aa->aa->aa->aa->aa->ae->O
 |0,_,_,_,_,_,_,_=>Y
 |n+1,a,b,d,e,f,c,H=>tY G N (ki G N n) a b d e f c H
def NL(G:ai)(N:Nat)(a:aa->aa->aa->aa->aa->aa->ae->O):∀C H,aE P G N (an (an (af (an (af (af (aG Tryz.f187))))))) (λC H=>a (C 0) (C 1) (C 5) (C 8) (C 9) (C 10) H) [(0,(λC H=>g0 G N (C 5) H))] (ay Tryz.f187) C H=tY G N a (C 0) (C 1) (C 5) (C 8) (C 9) (C 10) H:=by
 refine aH ((aq j ((aq j ((aq j (NP G N a) (aj _))) (aj _))) (aj _))) λC H=> ?_
 delta tY;generalize g0 G N=b;generalize kh G N a=c;revert b c;refine id ?_;intro b c;kernel_rfl
def pc(G:ai)(N:Nat)(b a:aa)(H:ae):O:=aZ P .len [30] [a] H λc=>ki G N N b a (Z U) a c (I J 0) H
def NM(G:ai)(N:Nat)(b:aa)(c:aa)(H:ae):aD Tryz.f187 G N (aP [b,c]) H=pc G N b c H:=by
 refine aS (A:=aD Tryz.f187 G N) ((aq j ((aq j ((aq j (NN G N) ((aq j ((aT j ((a8 (k:=λm C H=>ki G N m (C 0) (C 1) (C 5) (C 8) (C 9) (C 10) H) j (λC H=>j) (λm=>NL G N (ki G N m)))))) (aj _))))) (aj _))) (aj _))) ?_;delta pc;generalize ki G N N=a;revert a;refine id ?_;intro a;kernel_rfl
def e1(G:ai)(N:Nat)(a:aa)(H:ae):O:=some (a,H)
def NT(G:ai)(N:Nat):∀C H,aE P G N (af (af (af (aG Tryz.f188)))) (ay Tryz.f188) [] (ay Tryz.f188) C H=e1 G N (C 5) H:=by
 refine aH (aj _) λC H=> ?_
 delta e1;kernel_rfl
def e2(G:ai)(N:Nat)(a:aa->aa->aa->aa->aa->aa->ae->O)(b f:aa)(h c:aa)(d e:aa)(H:ae):O:=ad (al P .add 3 V e (I J 1)) λg=>a b f h c d g H
def NU(G:ai)(N:Nat)(a:aa->aa->aa->aa->aa->aa->ae->O):∀C H,aE P G N (af (af (af (an (an (af (an (af (af (aG Tryz.f188)))))))))) (λC H=>a (C 0) (C 3) (C 5) (C 10) (C 11) (C 12) H) [(0,(λC H=>e1 G N (C 5) H))] (ay Tryz.f188) C H=e2 G N a (C 0) (C 3) (C 5) (C 10) (C 11) (C 12) H:=by
 refine aH (aj _) λC H=> ?_
 delta e2;kernel_rfl
def kj(G:ai)(N:Nat)(l:aa->aa->aa->aa->aa->aa->ae->O)(a:aa->aa->aa->aa->aa->aa->aa->aa->aa->ae->O)(b h:aa)(j k:aa)(c d:aa)(e f g:aa)(H:ae):O:=ad (al P .add 3 V g (I J 1)) λi=>a b h j k c d e f i H
def NV(G:ai)(N:Nat)(a:aa->aa->aa->aa->aa->aa->ae->O)(b:aa->aa->aa->aa->aa->aa->aa->aa->aa->ae->O):∀C H,aE P G N (af (af (af (an (an (af (af (an (an (af (af (an (an (af (an (af (af (aG Tryz.f188)))))))))))))))))) (λC H=>b (C 0) (C 3) (C 5) (C 7) (C 10) (C 11) (C 12) (C 23) (C 24) H) [(2,(λC H=>e2 G N a (C 0) (C 3) (C 5) (C 10) (C 11) (C 12) H)),(1,(λC H=>e2 G N a (C 0) (C 3) (C 5) (C 10) (C 11) (C 12) H)),(0,(λC H=>e1 G N (C 5) H))] (ay Tryz.f188) C H=kj G N a b (C 0) (C 3) (C 5) (C 7) (C 10) (C 11) (C 12) (C 23) (C 24) H:=by
 refine aH (aj _) λC H=> ?_
 delta kj;kernel_rfl
def t_(G:ai)(N:Nat)(d:aa->aa->aa->aa->aa->aa->ae->O)(j:aa->aa->aa->aa->aa->aa->aa->aa->aa->ae->O)(a c:aa)(m i:aa)(e f:aa)(g h b:aa)(H:ae):O:=ad (al P .lss 3 U b h) λn=>ax (D n) (ad (ah P H 154 c) λo=>au H (G 191 [o,i,b] H) λp k=>au k (G 187 [a,p] k) λq l=>ax (D q) (kj G N d j a c (Z V) i e f g h b l) (kj G N d j a c m i e f g h b l)) (e2 G N d a c m e f g H)
def km(G:ai)(N:Nat)(a:aa->aa->aa->aa->aa->aa->ae->O):Nat->aa->aa->aa->aa->aa->aa->aa->aa->aa->ae->O
 |0,_,_,_,_,_,_,_,_,_,_=>Y
 |n+1,b,h,i,j,c,d,e,f,g,H=>t_ G N a (km G N a n) b h i j c d e f g H
def NR(G:ai)(N:Nat)(a:aa->aa->aa->aa->aa->aa->ae->O)(b:aa->aa->aa->aa->aa->aa->aa->aa->aa->ae->O):∀C H,aE P G N (an (an (af (af (an (an (af (af (an (an (af (an (af (af (aG Tryz.f188))))))))))))))) (λC H=>b (C 0) (C 3) (C 5) (C 7) (C 10) (C 11) (C 12) (C 23) (C 24) H) [(2,(λC H=>e2 G N a (C 0) (C 3) (C 5) (C 10) (C 11) (C 12) H)),(1,(λC H=>e2 G N a (C 0) (C 3) (C 5) (C 10) (C 11) (C 12) H)),(0,(λC H=>e1 G N (C 5) H))] (ay Tryz.f188) C H=t_ G N a b (C 0) (C 3) (C 5) (C 7) (C 10) (C 11) (C 12) (C 23) (C 24) H:=by
 refine aH ((aq j ((aq j ((aq j (NV G N a b) (aj _))) (aj _))) (aj _))) λC H=> ?_
 delta t_;generalize e2 G N a=c;generalize kj G N a b=d;revert c d;refine id ?_;intro c d;kernel_rfl
def tZ(G:ai)(N:Nat)(g:aa->aa->aa->aa->aa->aa->ae->O)(h e:aa)(f b:aa)(c a:aa)(H:ae):O:=ad (al P .lss 3 U a c) λi=>ax (D i) (ad (aF P 31 b a) λj=>ad (ah P H 30 j) λd=>ad (ak P 154 e 1) λk=>ad (ah P H 152 k) λl=>ad (aF P 30 d (I J 0)) λm=>ad (ah P H 3 m) λn=>ad (aF P 152 l n) λo=>ad (ah P H 31 o) λp=>aZ P .len [31] [p] H λq=>km G N g N h e f d b c a q (I J 0) H) (e1 G N f H)
def kk(G:ai)(N:Nat):Nat->aa->aa->aa->aa->aa->aa->ae->O
 |0,_,_,_,_,_,_,_=>Y
 |n+1,a,e,f,b,c,d,H=>tZ G N (kk G N n) a e f b c d H
def NQ(G:ai)(N:Nat)(a:aa->aa->aa->aa->aa->aa->ae->O):∀C H,aE P G N (an (an (af (an (af (af (aG Tryz.f188))))))) (λC H=>a (C 0) (C 3) (C 5) (C 10) (C 11) (C 12) H) [(0,(λC H=>e1 G N (C 5) H))] (ay Tryz.f188) C H=tZ G N a (C 0) (C 3) (C 5) (C 10) (C 11) (C 12) H:=by
 refine aH ((aq j ((aq j ((aq j (NU G N a) ((aT j ((aq j ((aq j ((aT j ((a8 (k:=λm C H=>km G N a m (C 0) (C 3) (C 5) (C 7) (C 10) (C 11) (C 12) (C 23) (C 24) H) j (λC H=>j) (λm=>NR G N a (km G N a m)))))) (aj _))) (aj _))))))) (aj _))) (aj _))) λC H=> ?_
 delta tZ;generalize e1 G N=b;generalize km G N a N=c;revert b c;refine id ?_;intro b c;kernel_rfl
def pd(G:ai)(N:Nat)(c e:aa)(H:ae):O:=aO H (bo (H).next e) λg a=>au a (G 189 [c] a) λd b=>aZ P .len [31] [d] b λf=>kk G N N c g (Z U) d f (I J 0) b
def NS(G:ai)(N:Nat)(b:aa)(c:aa)(H:ae):aD Tryz.f188 G N (aP [b,c]) H=pd G N b c H:=by
 refine aS (A:=aD Tryz.f188 G N) ((aq j ((aq j ((aq j (NT G N) ((aq j ((aT j ((a8 (k:=λm C H=>kk G N m (C 0) (C 3) (C 5) (C 10) (C 11) (C 12) H) j (λC H=>j) (λm=>NQ G N (kk G N m)))))) (aj _))))) (aj _))) (aj _))) ?_;delta pd;generalize kk G N N=a;revert a;refine id ?_;intro a;kernel_rfl
def fP(G:ai)(N:Nat)(a:aa)(H:ae):O:=some (a,H)
def NY(G:ai)(N:Nat):∀C H,aE P G N (af (af (af (af (af (aG Tryz.f189)))))) (ay Tryz.f189) [] (ay Tryz.f189) C H=fP G N (C 3) H:=by
 refine aH (aj _) λC H=> ?_
 delta fP;kernel_rfl
def g1(G:ai)(N:Nat)(a:aa->aa->aa->aa->aa->ae->O)(b e:aa)(f c d:aa)(H:ae):O:=ad (al P .add 3 V d (I J 1)) λg=>a b e f c g H
def NZ(G:ai)(N:Nat)(a:aa->aa->aa->aa->aa->ae->O):∀C H,aE P G N (af (af (af (an (an (af (an (af (af (af (af (aG Tryz.f189)))))))))))) (λC H=>a (C 0) (C 3) (C 4) (C 14) (C 15) H) [(0,(λC H=>fP G N (C 3) H))] (ay Tryz.f189) C H=g1 G N a (C 0) (C 3) (C 4) (C 14) (C 15) H:=by
 refine aH (aj _) λC H=> ?_
 delta g1;kernel_rfl
def kn(G:ai)(N:Nat)(j:aa->aa->aa->aa->aa->ae->O)(l f:aa)(a r:aa)(b m n:aa)(H:ae):O:=ad (dv P H 293 a b U) λg=>ad (aF P 31 f g) λh=>ad (ah P H 30 h) λi=>aO H (bl P (H).next 30 1 [(0,r)]) λo c=>au c (bJ P c [30,30] i o) λp d=>ad (dv P d 293 a b U) λe=>ad (aF P 31 f e) λq=>aB d (aA P d 30 q p) λk=>bif ((aJ (dv P H 293 a b U) g&&(aJ (dv P c 293 a b U) g&&V))&&((aJ (ah P H 30 h) i&&(aJ (ah P c 30 h) i&&V))&&((aJ (dv P H 293 a b U) e&&(aJ (dv P c 293 a b U) e&&(aJ (dv P d 293 a b U) e&&V)))&&V)))then(g1 G N j l f a m n k)else Y
def N0(G:ai)(N:Nat)(a:aa->aa->aa->aa->aa->ae->O):∀C H,aE P G N (af (af (af (an (an (af (af (an (an (af (an (af (af (af (af (aG Tryz.f189)))))))))))))))) (λC H=>g1 G N a (C 0) (C 3) (C 4) (C 14) (C 15) H) [(1,(λC H=>g1 G N a (C 0) (C 3) (C 4) (C 14) (C 15) H)),(0,(λC H=>fP G N (C 3) H))] (ay Tryz.f189) C H=kn G N a (C 0) (C 3) (C 4) (C 5) (C 6) (C 14) (C 15) H:=by
 refine aH (aj _) λC H=> ?_
 delta kn;generalize g1 G N a=b;revert b;refine id ?_;intro b;kernel_rfl
def ua(G:ai)(N:Nat)(h:aa->aa->aa->aa->aa->ae->O)(e d:aa)(g f a:aa)(H:ae):O:=ad (al P .lss 3 U a f) λl=>ax (D l) (au H (G 228 [e,a] H) λc b=>ad (al P .eql 3 U c a) λm=>ax (D m) (aZ P .len [31] [d] b λn=>aB b (eH P b 293 g c n) λi=>aO i (D (.ag (i).next 0 1 1 (D 1),.row U 1 [[aa.ar]])) λo j=>au j (bJ P j [31,31] d o) λp k=>kn G N h e p g a c f a k) (kn G N h e d g a c f a b)) (fP G N d H)
def ko(G:ai)(N:Nat):Nat->aa->aa->aa->aa->aa->ae->O
 |0,_,_,_,_,_,_=>Y
 |n+1,a,d,e,b,c,H=>ua G N (ko G N n) a d e b c H
def NW(G:ai)(N:Nat)(a:aa->aa->aa->aa->aa->ae->O):∀C H,aE P G N (an (an (af (an (af (af (af (af (aG Tryz.f189))))))))) (λC H=>a (C 0) (C 3) (C 4) (C 14) (C 15) H) [(0,(λC H=>fP G N (C 3) H))] (ay Tryz.f189) C H=ua G N a (C 0) (C 3) (C 4) (C 14) (C 15) H:=by
 refine aH ((aq j ((aq j ((aq j (NZ G N a) ((aT j ((aq j ((aq j ((aq j (N0 G N a) (aj _))) (aj _))) (aj _))))))) (aj _))) (aj _))) λC H=> ?_
 delta ua;generalize fP G N=b;generalize kn G N a=c;revert b c;refine id ?_;intro b c;kernel_rfl
def pe(G:ai)(N:Nat)(b:aa)(H:ae):O:=ad (al P .eql 253 V b aa.cr) λg=>ax (D g) (D (aa.ar,H)) (aO H (D (.map (H).next,.map [])) λh a=>ad (aL b) λc=>ad (ak P 292 c 0) λd=>ad (ah P a 30 d) λe=>aZ P .len [30] [e] a λf=>ko G N N b aa.ar h f (I J 0) a)
def NX(G:ai)(N:Nat)(b:aa)(H:ae):aD Tryz.f189 G N (aP [b]) H=pe G N b H:=by
 refine aS (A:=aD Tryz.f189 G N) ((aq j ((aq j ((aq j ((aq j ((aq j (NY G N) ((aq j ((aT j ((a8 (k:=λm C H=>ko G N m (C 0) (C 3) (C 4) (C 14) (C 15) H) j (λC H=>j) (λm=>NW G N (ko G N m)))))) (aj _))))) (aj _))) (aj _))) (aj _))) (aj _))) ?_;delta pe;generalize ko G N N=a;revert a;refine id ?_;intro a;kernel_rfl
def pf(G:ai)(b a:aa)(H:ae):O:=aZ P .len [30] [a] H λg=>ad (al P .eql 3 V g (I J 0)) λh=>ax (D h) (D ((I J (-1)),H)) (ad (aF P 30 a (I J 0)) λc=>ad (ah P H 3 c) λd=>ad (aF P 30 b d) λe=>ad (ah P H 3 e) λf=>D (f,H))
def N8(G:ai)(N:Nat)(a:aa)(b:aa)(H:ae):aD Tryz.f190 G N (aP [a,b]) H=pf G a b H:=by
 refine aS (A:=aD Tryz.f190 G N) (aj _) ?_;delta pf;kernel_rfl
def ku(G:ai)(N:Nat)(a:aa)(H:ae):O:=some (a,H)
def Oa(G:ai)(N:Nat):∀C H,aE P G N (af (af (af (aG Tryz.f191)))) (ay Tryz.f191) [] (ay Tryz.f191) C H=ku G N (C 7) H:=by
 refine aH (aj _) λC H=> ?_
 delta ku;kernel_rfl
def ue(G:ai)(N:Nat)(g:aa->aa->aa->aa->aa->aa->ae->O)(d e:aa)(f b:aa)(c a:aa)(H:ae):O:=ad (al P .lss 3 U a c) λi=>ax (D i) (ad (aF P 30 b a) λj=>ad (ah P H 3 j) λk=>ad (ak P 154 e 1) λl=>ad (ah P H 152 l) λm=>ad (aF P 152 m k) λn=>ad (ah P H 31 n) λo=>ad (aF P 31 o d) λp=>ad (ah P H 30 p) λq=>au H (bJ P H [30,30] f q) λr h=>ad (al P .add 3 V a (I J 1)) λs=>g d e r b c s h) (ku G N f H)
def kv(G:ai)(N:Nat):Nat->aa->aa->aa->aa->aa->aa->ae->O
 |0,_,_,_,_,_,_,_=>Y
 |n+1,d,e,f,a,b,c,H=>ue G N (kv G N n) d e f a b c H
def N9(G:ai)(N:Nat)(b:aa->aa->aa->aa->aa->aa->ae->O):∀C H,aE P G N (an (an (af (an (af (af (aG Tryz.f191))))))) (λC H=>b (C 2) (C 3) (C 7) (C 10) (C 11) (C 12) H) [(0,(λC H=>ku G N (C 7) H))] (ay Tryz.f191) C H=ue G N b (C 2) (C 3) (C 7) (C 10) (C 11) (C 12) H:=by
 refine aH (aj _) λC H=> ?_
 delta ue;generalize ku G N=a;revert a;refine id ?_;intro a;kernel_rfl
def pg(G:ai)(N:Nat)(c b e:aa)(H:ae):O:=aO H (bo (H).next c) λf a=>aZ P .len [30] [b] a λd=>kv G N N e f aa.ar b d (I J 0) a
def N_(G:ai)(N:Nat)(b:aa)(c:aa)(d:aa)(H:ae):aD Tryz.f191 G N (aP [b,c,d]) H=pg G N b c d H:=by
 refine aS (A:=aD Tryz.f191 G N) ((aq j ((aq j ((aq j (Oa G N) ((aq j ((aT j ((a8 (k:=λm C H=>kv G N m (C 2) (C 3) (C 7) (C 10) (C 11) (C 12) H) j (λC H=>j) (λm=>N9 G N (kv G N m)))))) (aj _))))) (aj _))) (aj _))) ?_;delta pg;generalize kv G N N=a;revert a;refine id ?_;intro a;kernel_rfl
def lv(G:ai)(N:Nat)(H:ae):O:=some ((Z V),H)
def PZ(G:ai)(N:Nat):∀C H,aE P G N (af (af (aG Tryz.f226))) (ay Tryz.f226) [] (ay Tryz.f226) C H=lv G N H:=by
 refine aH (aj _) λC H=> ?_
 delta lv;kernel_rfl
def uL(G:ai)(N:Nat)(f:aa->aa->aa->aa->ae->O)(c d:aa)(e a:aa)(H:ae):O:=ad (al P .lss 3 U a e) λg=>ax (D g) (ad (aF P 31 d a) λh=>ad (ah P H 30 h) λi=>au H (G 252 [i,(.func (.func 253) [] [c])] H) λj b=>ax (D j) (D ((Z U),b)) (ad (al P .add 3 V a (I J 1)) λk=>f c d e k b)) (lv G N H)
def lx(G:ai)(N:Nat):Nat->aa->aa->aa->aa->ae->O
 |0,_,_,_,_,_=>Y
 |n+1,a,b,c,d,H=>uL G N (lx G N n) a b c d H
def PX(G:ai)(N:Nat)(b:aa->aa->aa->aa->ae->O):∀C H,aE P G N (an (an (af (an (af (aG Tryz.f226)))))) (λC H=>b (C 3) (C 7) (C 8) (C 9) H) [(0,(λC H=>lv G N H))] (ay Tryz.f226) C H=uL G N b (C 3) (C 7) (C 8) (C 9) H:=by
 refine aH (aj _) λC H=> ?_
 delta uL;generalize lv G N=a;revert a;refine id ?_;intro a;kernel_rfl
def pU(G:ai)(N:Nat)(b c:aa)(H:ae):O:=aO H (bo (H).next c) λd a=>aZ P .len [31] [b] a λe=>lx G N N d b e (I J 0) a
def PY(G:ai)(N:Nat)(b:aa)(c:aa)(H:ae):aD Tryz.f226 G N (aP [b,c]) H=pU G N b c H:=by
 refine aS (A:=aD Tryz.f226 G N) ((aq j ((aq j (PZ G N) ((aq j ((aT j ((a8 (k:=λm C H=>lx G N m (C 3) (C 7) (C 8) (C 9) H) j (λC H=>j) (λm=>PX G N (lx G N m)))))) (aj _))))) (aj _))) ?_;delta pU;generalize lx G N N=a;revert a;refine id ?_;intro a;kernel_rfl
def pV(G:ai)(e n q:aa)(H:ae):O:=au H (G 228 [e,n] H) λd g=>au g (G 228 [e,q] g) λb h=>ad (al P .lss 3 V d (I J 0)) λf=>ao f U h (aM b) λo i=>ao f U i (az (al P .lss 3 V o (I J 0))) λp j=>ad (aN f (D (Z V)) (D p)) λc=>ao c U j (aM d) λr k=>ao c U k (aM b) λs l=>ao c U l (az (al P .eql 3 U r s)) λt a=>ad (aN c (D (Z V)) (D t)) λu=>ax (D u) (D ((Z U),a)) (ad (aL e) λv=>ad (ak P 292 v 0) λw=>ad (ah P a 30 w) λx=>aZ P .max [3,3] [d,b] a λy=>aZ P .min [3,3] [d,b] a λz=>ad (aF P 30 x y) λA=>aB a (aA P a 3 A z) λm=>D ((Z V),m))
def P0(G:ai)(N:Nat)(a:aa)(b:aa)(c:aa)(H:ae):aD Tryz.f227 G N (aP [a,b,c]) H=pV G a b c H:=by
 refine aS (A:=aD Tryz.f227 G N) (aj _) ?_;delta pV;kernel_rfl
def ly(G:ai)(N:Nat)(a:aa)(H:ae):O:=some (a,H)
def P3(G:ai)(N:Nat):∀C H,aE P G N (af (af (af (aG Tryz.f228)))) (ay Tryz.f228) [] (ay Tryz.f228) C H=ly G N (C 1) H:=by
 refine aH (aj _) λC H=> ?_
 delta ly;kernel_rfl
def uM(G:ai)(N:Nat)(d:aa->aa->ae->O)(a b:aa)(H:ae):O:=ad (aL a) λe=>ad (ak P 292 e 0) λf=>ad (ah P H 30 f) λg=>ad (aF P 30 g b) λh=>ad (ah P H 3 h) λi=>ad (al P .neq 3 U i b) λj=>ax (D j) (ad (aL a) λk=>ad (ak P 292 k 0) λl=>ad (ah P H 30 l) λm=>ad (aL a) λn=>ad (ak P 292 n 0) λo=>ad (ah P H 30 o) λp=>ad (aL a) λq=>ad (ak P 292 q 0) λr=>ad (ah P H 30 r) λs=>ad (aF P 30 s b) λt=>ad (ah P H 3 t) λu=>ad (aF P 30 p u) λv=>ad (ah P H 3 v) λw=>ad (aF P 30 m b) λx=>aB H (aA P H 3 x w) λc=>ad (aL a) λy=>ad (ak P 292 y 0) λz=>ad (ah P c 30 z) λA=>ad (aF P 30 A b) λB=>ad (ah P c 3 B) λC=>d a C c) (ly G N b H)
def lz(G:ai)(N:Nat):Nat->aa->aa->ae->O
 |0,_,_,_=>Y
 |n+1,a,b,H=>uM G N (lz G N n) a b H
def P1(G:ai)(N:Nat)(b:aa->aa->ae->O):∀C H,aE P G N (an (an (an (af (af (aG Tryz.f228)))))) (λC H=>b (C 0) (C 1) H) [(0,(λC H=>ly G N (C 1) H))] (ay Tryz.f228) C H=uM G N b (C 0) (C 1) H:=by
 refine aH (aj _) λC H=> ?_
 delta uM;generalize ly G N=a;revert a;refine id ?_;intro a;kernel_rfl
def pW(G:ai)(N:Nat)(b c:aa)(H:ae):O:=ad (al P .eql 253 V b aa.cr) λd=>ao d U H (aM c) λw i=>ao d U i (az (al P .lss 3 V w (I J 0))) λx j=>ad (aN d (D (Z V)) (D x)) λa=>ao a U j (aM c) λo k=>ao a U k (aM b) λp l=>ao a U l (az (aL p)) λr m=>ao a U m (az (ak P 292 r 0)) λs e=>ao a U e (qr (ah P e 30 s)) λh f=>ao a U f (λq=>bH (aW P .empty .len [30] [h]) (aW P f .len [30] [h]) q) λt n=>ao a U n (az (al P .geq 3 U o t)) λu g=>ad (aN a (D (Z V)) (D u)) λv=>ax (D v) (D ((I J (-1)),g)) (lz G N N b c g)
def P2(G:ai)(N:Nat)(b:aa)(c:aa)(H:ae):aD Tryz.f228 G N (aP [b,c]) H=pW G N b c H:=by
 refine aS (A:=aD Tryz.f228 G N) ((aq j ((aq j ((aq j (P3 G N) ((aT j ((a8 (k:=λm C H=>lz G N m (C 0) (C 1) H) j (λC H=>j) (λm=>P1 G N (lz G N m)))))))) (aj _))) (aj _))) ?_;delta pW;generalize lz G N N=a;revert a;refine id ?_;intro a;kernel_rfl
def qk(G:ai)(c f:aa)(H:ae):O:=ad (al P .lss 3 V c (I J 0)) λa=>ao a U H (aM c) λh b=>ao a U b (qr (ah P b 3 f)) λi d=>ao a U d (az (al P .geq 3 U h i)) λj e=>ad (aN a (D (Z V)) (D j)) λg=>D (g,e)
def QY(G:ai)(N:Nat)(a:aa)(b:aa)(H:ae):aD Tryz.f253 G N (aP [a,b]) H=qk G a b H:=by
 refine aS (A:=aD Tryz.f253 G N) (aj _) ?_;delta qk;kernel_rfl
end
end
section
set_option maxRecDepth 100000
noncomputable section
def gO(G:ai)(N:Nat)(a:aa)(H:ae):O:=some (a,H)
def Ke(G:ai)(N:Nat):∀C H,aE P G N (af (af (af (af (af (aG Tryz.f101)))))) (ay Tryz.f101) [] (ay Tryz.f101) C H=gO G N (C 8) H:=by
 refine aH (aj _) λC H=> ?_
 delta gO;kernel_rfl
def h1(G:ai)(N:Nat)(a:aa->aa->aa->aa->ae->O)(f b:aa)(c d:aa)(H:ae):O:=ad (al P .add 3 V d (I J 1)) λe=>a f b c e H
def Kf(G:ai)(N:Nat)(a:aa->aa->aa->aa->ae->O):∀C H,aE P G N (af (af (af (an (an (af (an (af (af (af (af (aG Tryz.f101)))))))))))) (λC H=>a (C 8) (C 49) (C 50) (C 51) H) [(2,(λC H=>gO G N (C 8) H))] (ay Tryz.f101) C H=h1 G N a (C 8) (C 49) (C 50) (C 51) H:=by
 refine aH (aj _) λC H=> ?_
 delta h1;kernel_rfl
def sV(G:ai)(N:Nat)(e:aa->aa->aa->aa->ae->O)(d b:aa)(c a:aa)(H:ae):O:=ad (al P .lss 3 U a c) λh=>ax (D h) (ad (aF P 104 b a) λi=>ad (ah P H 4 i) λj=>ax (D j) (aO H (bl P (H).next 30 1 [(0,a)]) λk f=>au f (bJ P f [30,30] d k) λl g=>h1 G N e l b c a g) (h1 G N e d b c a H)) (gO G N d H)
def h2(G:ai)(N:Nat):Nat->aa->aa->aa->aa->ae->O
 |0,_,_,_,_,_=>Y
 |n+1,d,a,b,c,H=>sV G N (h2 G N n) d a b c H
def Ka(G:ai)(N:Nat)(a:aa->aa->aa->aa->ae->O):∀C H,aE P G N (an (an (af (an (af (af (af (af (aG Tryz.f101))))))))) (λC H=>a (C 8) (C 49) (C 50) (C 51) H) [(2,(λC H=>gO G N (C 8) H))] (ay Tryz.f101) C H=sV G N a (C 8) (C 49) (C 50) (C 51) H:=by
 refine aH ((aq j ((aq j ((aq j (Kf G N a) (aj _))) (aj _))) (aj _))) λC H=> ?_
 delta sV;generalize gO G N=b;generalize h1 G N a=c;revert b c;refine id ?_;intro b c;kernel_rfl
def h0(G:ai)(N:Nat)(a:aa)(H:ae):O:=aZ P .len [104] [a] H λb=>h2 G N N aa.ar a b (I J 0) H
def Kd(G:ai)(N:Nat):∀C H,aE P G N (af (af (af (aG Tryz.f101)))) (ay Tryz.f101) [] (ay Tryz.f101) C H=h0 G N (C 5) H:=by
 refine aH ((aq j ((aq j (Ke G N) ((aq j ((aT j ((a8 (k:=λm C H=>h2 G N m (C 8) (C 49) (C 50) (C 51) H) j (λC H=>j) (λm=>Ka G N (h2 G N m)))))) (aj _))))) (aj _))) λC H=> ?_
 delta h0;generalize h2 G N N=a;revert a;refine id ?_;intro a;kernel_rfl
def sW(G:ai)(N:Nat)(h:aa->aa->aa->ae->O)(d b c:aa)(H:ae):O:=aZ P .len [30] [c] H λp=>ad (al P .gtr 3 V p (I J 0)) λq=>ax (D q) (aZ P .len [30] [c] H λr=>ad (al P .sub 3 V r (I J 1)) λs=>ad (aF P 30 c s) λt=>ad (ah P H 3 t) λe=>aZ P .len [30] [c] H λu=>ad (al P .sub 3 V u (I J 1)) λv=>ad (c1 P 30 c Y (D v) Y) λj=>au H (G 147 [d,e] H) λa k=>ao a V k (aM b) λw l=>ao a V l (aM e) λx m=>ao a V m (az (aF P 104 w x)) λy i=>ao a V i (qr (ah P i 4 y)) λz n=>ao a V n (az (bt .not z)) λA f=>ad (aN a (D A) (D (Z U))) λB=>ax (D B) (ad (aF P 104 b e) λC=>aB f (aA P f 4 C (Z V)) λg=>ad (aF P 31 d e) λE=>ad (ah P g 30 E) λF=>au g (bJ P g [30,30] j F) λK o=>h d b K o) (h d b j f)) (h0 G N b H)
def h3(G:ai)(N:Nat):Nat->aa->aa->aa->ae->O
 |0,_,_,_,_=>Y
 |n+1,a,b,c,H=>sW G N (h3 G N n) a b c H
def Kb(G:ai)(N:Nat)(b:aa->aa->aa->ae->O):∀C H,aE P G N (an (an (af (an (af (af (aG Tryz.f101))))))) (λC H=>b (C 0) (C 5) (C 6) H) [(0,(λC H=>h0 G N (C 5) H))] (ay Tryz.f101) C H=sW G N b (C 0) (C 5) (C 6) H:=by
 refine aH (aj _) λC H=> ?_
 delta sW;generalize h0 G N=a;revert a;refine id ?_;intro a;kernel_rfl
def nU(G:ai)(N:Nat)(b e:aa)(H:ae):O:=aZ P .len [31] [b] H λc=>aO H (cz (cO P ⟨.leaf,(H).next⟩ 104 c c) (H).next) λf a=>au a (G 43 [e] a) λg d=>h3 G N N b f g d
def Kc(G:ai)(N:Nat)(b:aa)(c:aa)(H:ae):aD Tryz.f101 G N (aP [b,c]) H=nU G N b c H:=by
 refine aS (A:=aD Tryz.f101 G N) ((aq j ((aq j ((aq j (Kd G N) ((aq j ((aT j ((a8 (k:=λm C H=>h3 G N m (C 0) (C 5) (C 6) H) j (λC H=>j) (λm=>Kb G N (h3 G N m)))))) (aj _))))) (aj _))) (aj _))) ?_;delta nU;generalize h3 G N N=a;revert a;refine id ?_;intro a;kernel_rfl
def oz(G:ai)(h c:aa)(H:ae):O:=ad (al P .geq 3 V c (I J 0)) λa=>ao a V H (aM c) λl e=>ao a V e (aM h) λd b=>ao a V b (λq=>bH (aW P .empty .len [31] [d]) (aW P b .len [31] [d]) q) λi f=>ao a V f (az (al P .lss 3 U l i)) λj g=>ad (aN a (D j) (D (Z U))) λk=>D (k,g)
def L2(G:ai)(N:Nat)(a:aa)(b:aa)(H:ae):aD Tryz.f147 G N (aP [a,b]) H=oz G a b H:=by
 refine aS (A:=aD Tryz.f147 G N) (aj _) ?_;delta oz;kernel_rfl
