/-
  Texts of one proof, laid together: ShPc Qk Sk ShQa Ql Ra Rb Rc.
-/
import Derived.Test.YtghmbpmaafnodaaGreatDoorMD
import Derived.Test.YtghmbpmaafnodaaGreatDoorMR
import Derived.Test.YtghmbpmaafnodaaGreatDoorMK
set_option linter.unusedVariables false
set_option linter.unusedSimpArgs false
namespace Go.Proofs.YtghmbpmaafnodaaGreatDoor
open Go.gd
open Nat (reduceAdd reduceLeDiff)
section
set_option maxRecDepth 100000
noncomputable section
def Iw(G:av)(Y ai:I)(H:J):O:=
 dv H (eK (H).next Y) λan U=>
 dv U (eK (U).next ai) λay aa=>
 ab (aE P 26 an 0) λbb=>
 ab (aj P aa 22 bb) λbu=>
 ab (aE P 26 ay 0) λbx=>
 ab (aj P aa 22 bx) λbS=>
 aO aa (G 40 [bu,bS,(.func (.func 41) [] [])] aa) λbE ae=>
 aD bE true ae (bh (aE P 26 an 1)) λb1 am=>
 aD bE true am (qr (aj P am 23 b1)) λcb aB=>
 aD bE true aB (bh (aE P 26 ay 1)) λb6 aG=>
 aD bE true aG (qr (aj P aG 23 b6)) λbT aP=>
 aD bE true aP (λq=>fk aP (G 42 [cb,bT,(.func (.func 43) [] [])] aP) q) λbW bq=>
 ab (cX bE (some bW) (some (.bool false))) λbG=>
 aD bG true bq (bh (aE P 26 an 2)) λcK bJ=>
 aD bG true bJ (qr (aj P bJ 24 cK)) λcM co=>
 aD bG true co (bh (aE P 26 ay 2)) λcA ds=>
 aD bG true ds (qr (aj P ds 24 cA)) λcx dV=>
 aD bG true dV (λq=>fk dV (G 44 [cM,cx,(.func (.func 45) [] [])] dV) q) λcz eN=>
 ab (cX bG (some cz) (some (.bool false))) λcH=>
 some (cH,eN)
theorem aiK(G:av)(N:Nat)(Y:I)(ai:I)(H:J):bn Tryz.f14 G N (cB [Y,ai]) H=Iw G Y ai H:=by
 refine cL (A:=bn Tryz.f14 G N) (aL _) ?_;delta Iw;kernel_rfl
theorem akN(N:Nat){Y ai:I}{H:J}{r:I×J}(h:Iw (aq P ao) Y ai H=some r):aq P ao 14 [Y,ai] H=some r:=
 cQ ad Tryz.func14 ad ad ad ((aiK (aq P ao) N Y ai H).trans h)
def tV(G:av)(N:Nat)(H:J):O:=
 some ((.bool true),H)
theorem adW(G:av)(N:Nat): ∀R H,cw P G N (Code.snd (Code.snd (Code.snd (c6 Tryz.f40)))) (bY Tryz.f40) [] (bY Tryz.f40) R H=tV G N H:=by
 refine dj (aL _) λR H=> ?_
 delta tV;kernel_rfl
def zu(G:av)(N:Nat)(bD:I->I->I->I->I->J->O)(ai an:I)(bW bG cc:I)(H:J):O:=
 ab (aW P .lss 3 false cc bG) λcK=>
 bO (some cK) (ab (dS P 22 bW cc) λcA=>
 ab (aj P H 41 cA) λcx=>
 cy H [(.str []),I.ap,(.int .i64 0)] λbS U=>
 a7 U (aQ P U 41 bS cx) λaa=>
 ab (dS P 22 ai cc) λc1=>
 ab (aj P aa 41 c1) λdn=>
 cy aa [(.str []),I.ap,(.int .i64 0)] λbE ae=>
 a7 ae (aQ P ae 41 bE dn) λam=>
 ab (aj P am 41 bS) λdc=>
 ab (aj P am 41 bE) λdT=>
 qJ G am an [dc,dT] λdJ aB=>
 ab (eY .not dJ) λcF=>
 bO (some cF) (some ((.bool false),aB)) (ab (aW P .add 3 true cc (.int .i64 1)) λeC=>
 bD ai an bW bG eC aB)) (tV G N H)
def vr(G:av)(N:Nat):Nat->I->I->I->I->I->J->O
 |0,_,_,_,_,_,_=>none
 |n+1,ai,an,bW,bG,cc,H=>zu G N (vr G N n) ai an bW bG cc H
theorem adV(G:av)(N:Nat)(bD:I->I->I->I->I->J->O): ∀R H,cw P G N (Code.fst (Code.fst (Code.snd (Code.fst (Code.snd (Code.snd (c6 Tryz.f40))))))) (λR H=>bD (R 1) (R 2) (R 15) (R 16) (R 17) H) [(0,(λR H=>tV G N H))] (bY Tryz.f40) R H=zu G N bD (R 1) (R 2) (R 15) (R 16) (R 17) H:=by
 refine dj (aL _) λR H=> ?_
 delta zu;generalize tV G N=a1;revert a1;refine id ?_;intro a1;kernel_rfl
def ym(G:av)(N:Nat)(Y ai an:I)(H:J):O:=
 bg P .len [22] [Y] H λb1=>
 bg P .len [22] [ai] H λb6=>
 ab (aW P .neq 3 false b1 b6) λbT=>
 bO (some bT) (some ((.bool false),H)) (bg P .len [22] [Y] H λbG=>
 vr G N N ai an Y bG (.int .i64 0) H)
theorem ai6(G:av)(N:Nat)(Y:I)(ai:I)(an:I)(H:J):bn Tryz.f40 G N (cB [Y,ai,an]) H=ym G N Y ai an H:=by
 refine cL (A:=bn Tryz.f40 G N) ((bk ad ((bk ad ((bk ad (adW G N) ((bk ad ((fy ad ((gg (k:=λm R H=>vr G N m (R 1) (R 2) (R 15) (R 16) (R 17) H) ad (λR H=>ad) (λm=>adV G N (vr G N m)))))) (aL _))))) (aL _))) (aL _))) ?_;delta ym;generalize vr G N N=a1;revert a1;refine id ?_;intro a1;kernel_rfl
theorem ak9(N:Nat){Y ai an:I}{H:J}{r:I×J}(h:ym (aq P ao) N Y ai an H=some r):aq P ao 40 [Y,ai,an] H=some r:=
 cQ ad Tryz.func40 ad ad ad ((ai6 (aq P ao) N Y ai an H).trans h)
def FB(G:av)(Y ai:I)(H:J):O:=
 dv H (eK (H).next Y) λan U=>
 dv U (eK (U).next ai) λay aa=>
 ab (aE P 41 an 0) λbb=>
 ab (aj P aa 9 bb) λbu=>
 ab (aE P 41 ay 0) λbx=>
 ab (aj P aa 9 bx) λbS=>
 ab (aW P .eql 9 false bu bS) λbE=>
 aD bE true aa (bh (aE P 41 an 1)) λb1 ae=>
 aD bE true ae (qr (aj P ae 23 b1)) λcb am=>
 aD bE true am (bh (aE P 41 ay 1)) λb6 aB=>
 aD bE true aB (qr (aj P aB 23 b6)) λbT aG=>
 aD bE true aG (λq=>fk aG (G 42 [cb,bT,(.func (.func 43) [] [])] aG) q) λbW aP=>
 ab (cX bE (some bW) (some (.bool false))) λbG=>
 some (bG,aP)
theorem ai7(G:av)(N:Nat)(Y:I)(ai:I)(H:J):bn Tryz.f41 G N (cB [Y,ai]) H=FB G Y ai H:=by
 refine cL (A:=bn Tryz.f41 G N) (aL _) ?_;delta FB;kernel_rfl
theorem ak_(N:Nat){Y ai:I}{H:J}{r:I×J}(h:FB (aq P ao) Y ai H=some r):aq P ao 41 [Y,ai] H=some r:=
 cQ ad Tryz.func41 ad ad ad ((ai7 (aq P ao) N Y ai H).trans h)
def tW(G:av)(N:Nat)(H:J):O:=
 some ((.bool true),H)
theorem adY(G:av)(N:Nat): ∀R H,cw P G N (Code.snd (Code.snd (Code.snd (c6 Tryz.f42)))) (bY Tryz.f42) [] (bY Tryz.f42) R H=tW G N H:=by
 refine dj (aL _) λR H=> ?_
 delta tW;kernel_rfl
def zv(G:av)(N:Nat)(bD:I->I->I->I->I->J->O)(ai an:I)(bW bG cc:I)(H:J):O:=
 ab (aW P .lss 3 false cc bG) λcK=>
 bO (some cK) (ab (dS P 23 bW cc) λcA=>
 ab (aj P H 66 cA) λcx=>
 cy H [(.str []),(.str []),(.int .i64 0),(.int .i64 0)] λbS U=>
 a7 U (aQ P U 66 bS cx) λaa=>
 ab (dS P 23 ai cc) λc1=>
 ab (aj P aa 66 c1) λdn=>
 cy aa [(.str []),(.str []),(.int .i64 0),(.int .i64 0)] λbE ae=>
 a7 ae (aQ P ae 66 bE dn) λam=>
 ab (aj P am 66 bS) λdc=>
 ab (aj P am 66 bE) λdT=>
 qJ G am an [dc,dT] λdJ aB=>
 ab (eY .not dJ) λcF=>
 bO (some cF) (some ((.bool false),aB)) (ab (aW P .add 3 true cc (.int .i64 1)) λeC=>
 bD ai an bW bG eC aB)) (tW G N H)
def vs(G:av)(N:Nat):Nat->I->I->I->I->I->J->O
 |0,_,_,_,_,_,_=>none
 |n+1,ai,an,bW,bG,cc,H=>zv G N (vs G N n) ai an bW bG cc H
theorem adX(G:av)(N:Nat)(bD:I->I->I->I->I->J->O): ∀R H,cw P G N (Code.fst (Code.fst (Code.snd (Code.fst (Code.snd (Code.snd (c6 Tryz.f42))))))) (λR H=>bD (R 1) (R 2) (R 15) (R 16) (R 17) H) [(0,(λR H=>tW G N H))] (bY Tryz.f42) R H=zv G N bD (R 1) (R 2) (R 15) (R 16) (R 17) H:=by
 refine dj (aL _) λR H=> ?_
 delta zv;generalize tW G N=a1;revert a1;refine id ?_;intro a1;kernel_rfl
def yn(G:av)(N:Nat)(Y ai an:I)(H:J):O:=
 bg P .len [23] [Y] H λb1=>
 bg P .len [23] [ai] H λb6=>
 ab (aW P .neq 3 false b1 b6) λbT=>
 bO (some bT) (some ((.bool false),H)) (bg P .len [23] [Y] H λbG=>
 vs G N N ai an Y bG (.int .i64 0) H)
theorem ai8(G:av)(N:Nat)(Y:I)(ai:I)(an:I)(H:J):bn Tryz.f42 G N (cB [Y,ai,an]) H=yn G N Y ai an H:=by
 refine cL (A:=bn Tryz.f42 G N) ((bk ad ((bk ad ((bk ad (adY G N) ((bk ad ((fy ad ((gg (k:=λm R H=>vs G N m (R 1) (R 2) (R 15) (R 16) (R 17) H) ad (λR H=>ad) (λm=>adX G N (vs G N m)))))) (aL _))))) (aL _))) (aL _))) ?_;delta yn;generalize vs G N N=a1;revert a1;refine id ?_;intro a1;kernel_rfl
theorem ala(N:Nat){Y ai an:I}{H:J}{r:I×J}(h:yn (aq P ao) N Y ai an H=some r):aq P ao 42 [Y,ai,an] H=some r:=
 cQ ad Tryz.func42 ad ad ad ((ai8 (aq P ao) N Y ai an H).trans h)
def FC(G:av)(Y ai:I)(H:J):O:=
 dv H (eK (H).next Y) λan U=>
 dv U (eK (U).next ai) λay aa=>
 ab (aE P 66 an 0) λbb=>
 ab (aj P aa 9 bb) λbu=>
 ab (aE P 66 ay 0) λbx=>
 ab (aj P aa 9 bx) λbS=>
 ab (aW P .eql 9 false bu bS) λbE=>
 aD bE true aa (bh (aE P 66 an 1)) λb1 ae=>
 aD bE true ae (qr (aj P ae 43 b1)) λcb am=>
 aD bE true am (bh (aE P 66 ay 1)) λb6 aB=>
 aD bE true aB (qr (aj P aB 43 b6)) λbT aG=>
 aD bE true aG (bh (aW P .eql 43 false cb bT)) λbW aP=>
 ab (cX bE (some bW) (some (.bool false))) λbG=>
 some (bG,aP)
theorem ai9(G:av)(N:Nat)(Y:I)(ai:I)(H:J):bn Tryz.f43 G N (cB [Y,ai]) H=FC G Y ai H:=by
 refine cL (A:=bn Tryz.f43 G N) (aL _) ?_;delta FC;kernel_rfl
theorem alb(N:Nat){Y ai:I}{H:J}{r:I×J}(h:FC (aq P ao) Y ai H=some r):aq P ao 43 [Y,ai] H=some r:=
 cQ ad Tryz.func43 ad ad ad ((ai9 (aq P ao) N Y ai H).trans h)
def tX(G:av)(N:Nat)(H:J):O:=
 some ((.bool true),H)
theorem ad0(G:av)(N:Nat): ∀R H,cw P G N (Code.snd (Code.snd (Code.snd (c6 Tryz.f44)))) (bY Tryz.f44) [] (bY Tryz.f44) R H=tX G N H:=by
 refine dj (aL _) λR H=> ?_
 delta tX;kernel_rfl
def zw(G:av)(N:Nat)(bD:I->I->I->I->I->J->O)(ai an:I)(bW bG cc:I)(H:J):O:=
 ab (aW P .lss 3 false cc bG) λcK=>
 bO (some cK) (ab (dS P 24 bW cc) λcA=>
 ab (aj P H 46 cA) λcx=>
 cy H [(.str []),I.ap,(.bool false),(.str []),(.int .i64 0),I.ap,(.int .i64 0)] λbS U=>
 a7 U (aQ P U 46 bS cx) λaa=>
 ab (dS P 24 ai cc) λc1=>
 ab (aj P aa 46 c1) λdn=>
 cy aa [(.str []),I.ap,(.bool false),(.str []),(.int .i64 0),I.ap,(.int .i64 0)] λbE ae=>
 a7 ae (aQ P ae 46 bE dn) λam=>
 ab (aj P am 46 bS) λdc=>
 ab (aj P am 46 bE) λdT=>
 qJ G am an [dc,dT] λdJ aB=>
 ab (eY .not dJ) λcF=>
 bO (some cF) (some ((.bool false),aB)) (ab (aW P .add 3 true cc (.int .i64 1)) λeC=>
 bD ai an bW bG eC aB)) (tX G N H)
def vt(G:av)(N:Nat):Nat->I->I->I->I->I->J->O
 |0,_,_,_,_,_,_=>none
 |n+1,ai,an,bW,bG,cc,H=>zw G N (vt G N n) ai an bW bG cc H
theorem adZ(G:av)(N:Nat)(bD:I->I->I->I->I->J->O): ∀R H,cw P G N (Code.fst (Code.fst (Code.snd (Code.fst (Code.snd (Code.snd (c6 Tryz.f44))))))) (λR H=>bD (R 1) (R 2) (R 15) (R 16) (R 17) H) [(0,(λR H=>tX G N H))] (bY Tryz.f44) R H=zw G N bD (R 1) (R 2) (R 15) (R 16) (R 17) H:=by
 refine dj (aL _) λR H=> ?_
 delta zw;generalize tX G N=a1;revert a1;refine id ?_;intro a1;kernel_rfl
def yo(G:av)(N:Nat)(Y ai an:I)(H:J):O:=
 bg P .len [24] [Y] H λb1=>
 bg P .len [24] [ai] H λb6=>
 ab (aW P .neq 3 false b1 b6) λbT=>
 bO (some bT) (some ((.bool false),H)) (bg P .len [24] [Y] H λbG=>
 vt G N N ai an Y bG (.int .i64 0) H)
theorem ai_(G:av)(N:Nat)(Y:I)(ai:I)(an:I)(H:J):bn Tryz.f44 G N (cB [Y,ai,an]) H=yo G N Y ai an H:=by
 refine cL (A:=bn Tryz.f44 G N) ((bk ad ((bk ad ((bk ad (ad0 G N) ((bk ad ((fy ad ((gg (k:=λm R H=>vt G N m (R 1) (R 2) (R 15) (R 16) (R 17) H) ad (λR H=>ad) (λm=>adZ G N (vt G N m)))))) (aL _))))) (aL _))) (aL _))) ?_;delta yo;generalize vt G N N=a1;revert a1;refine id ?_;intro a1;kernel_rfl
theorem alc(N:Nat){Y ai an:I}{H:J}{r:I×J}(h:yo (aq P ao) N Y ai an H=some r):aq P ao 44 [Y,ai,an] H=some r:=
 cQ ad Tryz.func44 ad ad ad ((ai_ (aq P ao) N Y ai an H).trans h)
def FD(G:av)(Y ai:I)(H:J):O:=
 dv H (eK (H).next Y) λan U=>
 dv U (eK (U).next ai) λay aa=>
 ab (aE P 46 an 0) λbb=>
 ab (aj P aa 9 bb) λbu=>
 ab (aE P 46 ay 0) λbx=>
 ab (aj P aa 9 bx) λbS=>
 ab (aW P .eql 9 false bu bS) λbE=>
 aD bE true aa (bh (aE P 46 an 1)) λb1 ae=>
 aD bE true ae (qr (aj P ae 23 b1)) λcb am=>
 aD bE true am (bh (aE P 46 ay 1)) λb6 aB=>
 aD bE true aB (qr (aj P aB 23 b6)) λbT aG=>
 aD bE true aG (λq=>fk aG (G 42 [cb,bT,(.func (.func 43) [] [])] aG) q) λbW aP=>
 ab (cX bE (some bW) (some (.bool false))) λbG=>
 aD bG true aP (bh (aE P 46 an 2)) λcK bq=>
 aD bG true bq (qr (aj P bq 4 cK)) λcM bJ=>
 aD bG true bJ (bh (aE P 46 ay 2)) λcA co=>
 aD bG true co (qr (aj P co 4 cA)) λcx ds=>
 aD bG true ds (bh (aW P .eql 4 false cM cx)) λcz dV=>
 ab (cX bG (some cz) (some (.bool false))) λcH=>
 aD cH true dV (bh (aE P 46 an 3)) λdn eN=>
 aD cH true eN (qr (aj P eN 43 dn)) λdt fI=>
 aD cH true fI (bh (aE P 46 ay 3)) λdc f0=>
 aD cH true f0 (qr (aj P f0 43 dc)) λdT hk=>
 aD cH true hk (bh (aW P .eql 43 false dt dT)) λdJ iv=>
 ab (cX cH (some dJ) (some (.bool false))) λcF=>
 aD cF true iv (bh (aE P 46 an 4)) λdy hZ=>
 aD cF true hZ (qr (aj P hZ 44 dy)) λei mv=>
 aD cF true mv (bh (aE P 46 ay 4)) λfh jq=>
 aD cF true jq (qr (aj P jq 44 fh)) λej ja=>
 aD cF true ja (λq=>fk ja (G 64 [ei,ej,(.func (.func 65) [] [])] ja) q) λdW oB=>
 ab (cX cF (some dW) (some (.bool false))) λef=>
 some (ef,oB)
theorem aja(G:av)(N:Nat)(Y:I)(ai:I)(H:J):bn Tryz.f45 G N (cB [Y,ai]) H=FD G Y ai H:=by
 refine cL (A:=bn Tryz.f45 G N) (aL _) ?_;delta FD;kernel_rfl
theorem ald(N:Nat){Y ai:I}{H:J}{r:I×J}(h:FD (aq P ao) Y ai H=some r):aq P ao 45 [Y,ai] H=some r:=
 cQ ad Tryz.func45 ad ad ad ((aja (aq P ao) N Y ai H).trans h)
end
end
section
def gL{α:Type}(f:α->α->Bool):List α->List α->Bool
 |[],[]=>true
 |a::l,b::m=>f a b&&gL f l m
 |_,_=>false
theorem wS{α:Type}{f:α->α->Bool}: ∀(l m:List α),l.length≠m.length->gL f l m=false
 |[],[],h=>absurd rfl h
 |[],_::_,_=>rfl
 |_::_,[],_=>rfl
 |a::l,b::m,h=>by rw[gL,wS l m (by simpa using h),Bool.and_false]
theorem Bz{α:Type}{f:α->α->Bool}(h: ∀a,f a a=true): ∀l,gL f l l=true
 |[]=>rfl
 |a::l=>by rw[gL,h,Bz h l];rfl
def jD(a b:ec):Bool:=a.name==b.name&&(a.eV==b.eV&&a.fT==b.fT)
def mM(a b:jY):Bool:=a.name==b.name&&gL jD a.fields b.fields
def pK(a b:Fn):Bool:=a.name==b.name&&(gL jD a.params b.params&&(a.has==b.has&&((a.fL==b.fL&&a.rd==b.rd)&&ir a.body b.body)))
def xu(a b:eA):Bool:=gL mM a.el b.el&&(gL jD a.globals b.globals&&gL pK a.funcs b.funcs)
section
variable {α:Type}{K:tl α}{H:J}{ok:Nat->Prop}
theorem eJ.row{l:List α}{v:I}(h:eJ K H ok l v)(az: ¬l.length=0): ∃L i cap ro els,v= .aN L i l.length K.esz cap/\H.get L=some (.row ro K.esz els)/\ ∀(j:Nat) (a:α),l[j]? =some a-> ∃cs,els[i+j]? =some cs/\K.V H ok a cs:=by
 rcases h with⟨rfl,h⟩|⟨L,i,cap,ro,els,aI,bc,dq,eZ⟩|⟨L,i,cap,rfl,h⟩
 ·rw[h] at az;exact absurd rfl az
 ·exact⟨L,i,_,ro,els,aI,dq,eZ⟩
 ·rw[h] at az;exact absurd rfl az
end
theorem eJ.qN{H:J}{ok:Nat->Prop}{l:List ec}{v:I}(h:eJ fz H ok l v)(H':J):dF P H' .len [23] [v]=some (.int .i64 l.length):=by
 rcases h with⟨rfl,rfl⟩|⟨L,i,cap,ro,els,rfl,_⟩|⟨L,i,cap,rfl,rfl⟩
 ·exact Hl
 ·exact EA
 ·exact EA
theorem Sr{Φ:ec->Prop}(al: ∀(a b:ec) (cs bU:List I) (H:J) (ok ok':Nat->Prop),Φ a->fz.V H ok a cs->fz.V H ok' b bU->W (aq P ao 43 [.agg cs,.agg bU] H) λr H'=>r= .bool (jD a b)/\aR H H'){N:Nat}{l m:List ec}(az:l.length<=1000000000)(hm:l.length=m.length)(qe: ∀a∈l,Φ a){f7 g7 gW li:Nat}{kc lc:Option Nat}{ju jv:Bool}{hc hd:List (List I)}{ok ok':Nat->Prop}:
  ∀(c j n:Nat) (H:J),j+c=l.length->c<n->H.get f7=some (.row ju 4 hc)->H.get gW=some (.row jv 4 hd)->(∀(j:Nat) (a:ec),l[j]? =some a-> ∃cs,hc[g7+j]? =some cs/\fz.V H ok a cs)->(∀(j:Nat) (a:ec),m[j]? =some a-> ∃cs,hd[li+j]? =some cs/\fz.V H ok' a cs)->
  W (vs (aq P ao) N n (.aN gW li m.length 4 lc) (.func (.func 43) [] []) (.aN f7 g7 l.length 4 kc) (.int .i64 l.length) (.int .i64 j) H) λr H'=>r= .bool (gL jD (l.drop j) (m.drop j))/\aR H H'
 |_,_,0,_,_,aU,_,_,_,_=>Z
 |0,j,n+1,H,aS,aU,aG,aP,aI,bc=>by
  have bH: ¬((j:Int)<(l.length:Int)):=Z;have d1:l.drop j=[]:=List.drop_eq_nil_of_le Z;have d2:m.drop j=[]:=List.drop_eq_nil_of_le Z;simp-implicitDefEqProofs(disch:=try exact af) only[vs,tW,zv,yn,bg,bL,ee,bH,decide_false];exact a_.2 ⟨by rw[d1,d2];rfl,.refl _⟩
 |c+1,j,n+1,H,aS,aU,aG,aP,aI,bc=>by
  have jK:j<l.length:=Z;have nH:j<m.length:=Z;have bH:(j:Int)<(l.length:Int):=Z;have qb:(j:Int)<(m.length:Int):=Z;have aY:(0:Int)<=(j:Int):=Z;have bz:((j:Int)).toNat=j:=Z;obtain⟨cs,g1,g2⟩:=aI j l[j] (List.getElem?_eq_getElem jK);obtain⟨bU,g4,g5⟩:=bc j m[j] (List.getElem?_eq_getElem nH);obtain⟨cu,eH⟩:=fz.len g2;obtain⟨eR,gI⟩:=fz.len g5;have ht:fz.esz=4:=rfl;rw[ht] at cu eR;have q6:List.take 4 cs=cs:=List.take_of_length_le Z;have q7:List.take 4 bU=bU:=List.take_of_length_le Z;have eG:=J.aX aG;have fA:=J.aX aP;have hw:IntKind.i64.wrap ((j:Int)+1)=((j+1:Nat):Int):=by rw[wrap_i64 Z Z];omega
  have hl:=(aR.push H (.row false 4 [cs])).bX (.row false 4 [bU]);simp-implicitDefEqProofs(disch:=try exact af) only[vs,tW,zv,yn,reduceAdd,reduceLeDiff,reduceIte,aw,bH,qb,decide_true,bz,aG,aP,g1,g4,q6,q7,cu,eH,eR,gI,List.append_nil,sx,List.nil_append];refine a6 (al l[j] m[j] _ _ _ ok ok' (qe _ (List.getElem_mem _)) (fz.bo (eb.aK hl) g2) (fz.bo (eb.aK hl) g5)) ?_;rintro _ bm ⟨rfl,aJ⟩;refine⟨aJ.1,?_⟩;have dl:l.drop j=l[j]::l.drop (j+1):=List.drop_eq_getElem_cons jK;have ql:m.drop j=m[j]::m.drop (j+1):=List.drop_eq_getElem_cons nH;cases oC:jD l[j] m[j] with
  |false=>
   simp-implicitDefEqProofs(disch:=try exact af) only[bg,bL,Bool.not_false];exact a_.2 ⟨by rw[dl,ql,gL,oC,Bool.false_and],hl.trans aJ⟩
  |true=>
   simp-implicitDefEqProofs(disch:=try exact af) only[bg,bL,ee,Bool.not_true,hw];have pp:=hl.trans aJ;refine(Sr al az hm qe (ok:=ok) (ok':=ok') c (j+1) n bm Z Z (pp.get aG) (pp.get aP) (λi a be=> ?_) (λi a be=> ?_)).mono ?_
   ·obtain⟨x,y,z⟩:=aI i a be;exact⟨x,y,fz.bo (eb.aK pp) z⟩
   ·obtain⟨x,y,z⟩:=bc i a be;exact⟨x,y,fz.bo (eb.aK pp) z⟩
   ·rintro v H' ⟨rfl,q⟩;exact⟨by rw[dl,ql,gL,oC,Bool.true_and],pp.trans q⟩
theorem Lw{Φ:ec->Prop}(al: ∀(a b:ec) (cs bU:List I) (H:J) (ok ok':Nat->Prop),Φ a->fz.V H ok a cs->fz.V H ok' b bU->W (aq P ao 43 [.agg cs,.agg bU] H) λr H'=>r= .bool (jD a b)/\aR H H'){H:J}{l m:List ec}(az:l.length<=1000000000)(qe: ∀a∈l,Φ a){v w:I}{ok ok':Nat->Prop}(U:eJ fz H ok l v)(aa:eJ fz H ok' m w):W (aq P ao 42 [v,w,.func (.func 43) [] []] H) λr H'=>r= .bool (gL jD l m)/\aR H H':=by
 refine cP (λ_=>ala (l.length+1)) ?_;have bM:=λH'=>U.qN H'
 have c2:=λH'=>aa.qN H'
 have z0:((0:Nat):Int)=0:=rfl;by_cases aU:l.length=m.length
 ·by_cases cn:l.length=0
  ·have lq:m.length=0:=Z;obtain rfl:=List.length_eq_zero_iff.1 cn;obtain rfl:=List.length_eq_zero_iff.1 lq;simp-implicitDefEqProofs(disch:=try exact af) only[vs,tW,zv,yn,reduceAdd,reduceLeDiff,reduceIte,aw,bM,c2,List.length_nil,z0,bne_self_eq_false,Int.lt_irrefl,decide_false];exact a_.2 ⟨rfl,.refl _⟩
  ·obtain⟨eG,i1,cG,gm,o7,rfl,g1,eo⟩:=U.row cn;obtain⟨fA,i2,dh,e0,qW,rfl,g2,eX⟩:=aa.row Z;have wj:((l.length:Int) != (m.length:Int))=false:=by simp;omega
   have ht:fz.esz=4:=rfl;rw[ht] at bM c2 g1 g2 ⊢;simp-implicitDefEqProofs(disch:=try exact af) only[tW,yn,bg,bg,bL,ee,bM,c2,wj];have:=Sr al (N:=l.length+1) az aU qe (kc:=cG) (lc:=dh) l.length 0 (l.length+1) H Z Z g1 g2 eo eX;simpa using this
 ·have hz:((l.length:Int) != (m.length:Int))=true:=by simp;omega
  simp-implicitDefEqProofs(disch:=try exact af) only[tW,zv,yn,bg,bg,bL,ee,bM,c2,hz];exact a_.2 ⟨by rw[wS _ _ aU],.refl _⟩
theorem KY(a b:ec)(cs bU:List I)(H:J)(ok ok':Nat->Prop)(_:True)(U:fz.V H ok a cs)(aa:fz.V H ok' b bU):W (aq P ao 43 [.agg cs,.agg bU] H) λr H'=>r= .bool (jD a b)/\aR H H':=by
 obtain rfl:cs=a.cells:=U;obtain rfl:bU=b.cells:=aa;refine cP (λ_=>alb 0) ?_;have dQ: ∀l,eK l (.agg a.cells)=some (.ptr l 0 0,.row false 4 [a.cells]):=λl=>h8 l _ rfl
 have ck: ∀l,eK l (.agg b.cells)=some (.ptr l 0 0,.row false 4 [b.cells]):=λl=>h8 l _ rfl
 have aJ:=(aR.push H (.row false 4 [a.cells])).bX (.row false 4 [b.cells]);unfold jD;simp only[ec.cells] at dQ ck aJ ⊢;cases c0:a.name==b.name with
 |false=>
  simp-implicitDefEqProofs(disch:=try exact af) only[FC,reduceAdd,reduceLeDiff,reduceIte,aw,dQ,ck,c0];exact a_.2 ⟨by simp only[Bool.false_and],aJ⟩
 |true=>
  simp-implicitDefEqProofs(disch:=try exact af) only[FC,reduceAdd,reduceLeDiff,reduceIte,aw,dQ,ck,c0,jn];exact a_.2 ⟨by simp only[Bool.true_and],aJ⟩
theorem eJ.uj{H:J}{ok:Nat->Prop}{l:List jY}{v:I}(h:eJ gA H ok l v)(H':J):dF P H' .len [22] [v]=some (.int .i64 l.length):=by
 rcases h with⟨rfl,rfl⟩|⟨L,i,cap,ro,els,rfl,_⟩|⟨L,i,cap,rfl,rfl⟩
 ·exact Hk
 ·exact Ez
 ·exact Ez
theorem Sq{Φ:jY->Prop}(al: ∀(a b:jY) (cs bU:List I) (H:J) (ok ok':Nat->Prop),Φ a->gA.V H ok a cs->gA.V H ok' b bU->W (aq P ao 41 [.agg cs,.agg bU] H) λr H'=>r= .bool (mM a b)/\aR H H'){N:Nat}{l m:List jY}(az:l.length<=1000000000)(hm:l.length=m.length)(qe: ∀a∈l,Φ a){f7 g7 gW li:Nat}{kc lc:Option Nat}{ju jv:Bool}{hc hd:List (List I)}{ok ok':Nat->Prop}:
  ∀(c j n:Nat) (H:J),j+c=l.length->c<n->H.get f7=some (.row ju 3 hc)->H.get gW=some (.row jv 3 hd)->(∀(j:Nat) (a:jY),l[j]? =some a-> ∃cs,hc[g7+j]? =some cs/\gA.V H ok a cs)->(∀(j:Nat) (a:jY),m[j]? =some a-> ∃cs,hd[li+j]? =some cs/\gA.V H ok' a cs)->
  W (vr (aq P ao) N n (.aN gW li m.length 3 lc) (.func (.func 41) [] []) (.aN f7 g7 l.length 3 kc) (.int .i64 l.length) (.int .i64 j) H) λr H'=>r= .bool (gL mM (l.drop j) (m.drop j))/\aR H H'
 |_,_,0,_,_,aU,_,_,_,_=>Z
 |0,j,n+1,H,aS,aU,aG,aP,aI,bc=>by
  have bH: ¬((j:Int)<(l.length:Int)):=Z;have d1:l.drop j=[]:=List.drop_eq_nil_of_le Z;have d2:m.drop j=[]:=List.drop_eq_nil_of_le Z;simp-implicitDefEqProofs(disch:=try exact af) only[vr,tV,zu,ym,bg,bL,ee,bH,decide_false];exact a_.2 ⟨by rw[d1,d2];rfl,.refl _⟩
 |c+1,j,n+1,H,aS,aU,aG,aP,aI,bc=>by
  have jK:j<l.length:=Z;have nH:j<m.length:=Z;have bH:(j:Int)<(l.length:Int):=Z;have qb:(j:Int)<(m.length:Int):=Z;have aY:(0:Int)<=(j:Int):=Z;have bz:((j:Int)).toNat=j:=Z;obtain⟨cs,g1,g2⟩:=aI j l[j] (List.getElem?_eq_getElem jK);obtain⟨bU,g4,g5⟩:=bc j m[j] (List.getElem?_eq_getElem nH);obtain⟨cu,eH⟩:=gA.len g2;obtain⟨eR,gI⟩:=gA.len g5;have ht:gA.esz=3:=rfl;rw[ht] at cu eR;have q6:List.take 3 cs=cs:=List.take_of_length_le Z;have q7:List.take 3 bU=bU:=List.take_of_length_le Z;have eG:=J.aX aG;have fA:=J.aX aP;have hw:IntKind.i64.wrap ((j:Int)+1)=((j+1:Nat):Int):=by rw[wrap_i64 Z Z];omega
  have hl:=(aR.push H (.row false 3 [cs])).bX (.row false 3 [bU]);simp-implicitDefEqProofs(disch:=try exact af) only[vr,tV,zu,ym,reduceAdd,reduceLeDiff,reduceIte,aw,bH,qb,decide_true,bz,aG,aP,g1,g4,q6,q7,cu,eH,eR,gI,List.append_nil,sx,List.nil_append];refine a6 (al l[j] m[j] _ _ _ ok ok' (qe _ (List.getElem_mem _)) (gA.bo (eb.aK hl) g2) (gA.bo (eb.aK hl) g5)) ?_;rintro _ bm ⟨rfl,aJ⟩;refine⟨aJ.1,?_⟩;have dl:l.drop j=l[j]::l.drop (j+1):=List.drop_eq_getElem_cons jK;have ql:m.drop j=m[j]::m.drop (j+1):=List.drop_eq_getElem_cons nH;cases oC:mM l[j] m[j] with
  |false=>
   simp-implicitDefEqProofs(disch:=try exact af) only[bg,bL,Bool.not_false];exact a_.2 ⟨by rw[dl,ql,gL,oC,Bool.false_and],hl.trans aJ⟩
  |true=>
   simp-implicitDefEqProofs(disch:=try exact af) only[bg,bL,ee,Bool.not_true,hw];have pp:=hl.trans aJ;refine(Sq al az hm qe (ok:=ok) (ok':=ok') c (j+1) n bm Z Z (pp.get aG) (pp.get aP) (λi a be=> ?_) (λi a be=> ?_)).mono ?_
   ·obtain⟨x,y,z⟩:=aI i a be;exact⟨x,y,gA.bo (eb.aK pp) z⟩
   ·obtain⟨x,y,z⟩:=bc i a be;exact⟨x,y,gA.bo (eb.aK pp) z⟩
   ·rintro v H' ⟨rfl,q⟩;exact⟨by rw[dl,ql,gL,oC,Bool.true_and],pp.trans q⟩
theorem aj7{Φ:jY->Prop}(al: ∀(a b:jY) (cs bU:List I) (H:J) (ok ok':Nat->Prop),Φ a->gA.V H ok a cs->gA.V H ok' b bU->W (aq P ao 41 [.agg cs,.agg bU] H) λr H'=>r= .bool (mM a b)/\aR H H'){H:J}{l m:List jY}(az:l.length<=1000000000)(qe: ∀a∈l,Φ a){v w:I}{ok ok':Nat->Prop}(U:eJ gA H ok l v)(aa:eJ gA H ok' m w):W (aq P ao 40 [v,w,.func (.func 41) [] []] H) λr H'=>r= .bool (gL mM l m)/\aR H H':=by
 refine cP (λ_=>ak9 (l.length+1)) ?_;have bM:=λH'=>U.uj H'
 have c2:=λH'=>aa.uj H'
 have z0:((0:Nat):Int)=0:=rfl;by_cases aU:l.length=m.length
 ·by_cases cn:l.length=0
  ·have lq:m.length=0:=Z;obtain rfl:=List.length_eq_zero_iff.1 cn;obtain rfl:=List.length_eq_zero_iff.1 lq;simp-implicitDefEqProofs(disch:=try exact af) only[vr,tV,zu,ym,reduceAdd,reduceLeDiff,reduceIte,aw,bM,c2,List.length_nil,z0,bne_self_eq_false,Int.lt_irrefl,decide_false];exact a_.2 ⟨rfl,.refl _⟩
  ·obtain⟨eG,i1,cG,gm,o7,rfl,g1,eo⟩:=U.row cn;obtain⟨fA,i2,dh,e0,qW,rfl,g2,eX⟩:=aa.row Z;have wj:((l.length:Int) != (m.length:Int))=false:=by simp;omega
   have ht:gA.esz=3:=rfl;rw[ht] at bM c2 g1 g2 ⊢;simp-implicitDefEqProofs(disch:=try exact af) only[tV,ym,bg,bg,bL,ee,bM,c2,wj];have:=Sq al (N:=l.length+1) az aU qe (kc:=cG) (lc:=dh) l.length 0 (l.length+1) H Z Z g1 g2 eo eX;simpa using this
 ·have hz:((l.length:Int) != (m.length:Int))=true:=by simp;omega
  simp-implicitDefEqProofs(disch:=try exact af) only[tV,zu,ym,bg,bg,bL,ee,bM,c2,hz];exact a_.2 ⟨by rw[wS _ _ aU],.refl _⟩
theorem ahc(a b:jY)(cs bU:List I)(H:J)(ok ok':Nat->Prop)(aM:a.fields.length<=1000000000)(U:gA.V H ok a cs)(aa:gA.V H ok' b bU):W (aq P ao 41 [.agg cs,.agg bU] H) λr H'=>r= .bool (mM a b)/\aR H H':=by
 obtain⟨v,rfl,eo⟩:=U;obtain⟨w,rfl,eX⟩:=aa;refine cP (λ_=>ak_ 0) ?_;have cR:=eo.one;have dd:=eX.one;have dQ: ∀l,eK l (.agg [.str a.name,v,.int .i64 a.pos])=some (.ptr l 0 0,.row false 3 [[.str a.name,v,.int .i64 a.pos]]):=λl=>h8 l _ (by simp only[List.all_cons,List.all_nil,jO,iF,cR,Bool.and_self])
 have ck: ∀l,eK l (.agg [.str b.name,w,.int .i64 b.pos])=some (.ptr l 0 0,.row false 3 [[.str b.name,w,.int .i64 b.pos]]):=λl=>h8 l _ (by simp only[List.all_cons,List.all_nil,jO,iF,dd,Bool.and_self])
 have aJ:=(aR.push H (.row false 3 [[.str a.name,v,.int .i64 a.pos]])).bX (.row false 3 [[.str b.name,w,.int .i64 b.pos]]);unfold mM;cases c0:a.name==b.name with
 |false=>
  simp-implicitDefEqProofs(disch:=try exact af) only[FB,reduceAdd,reduceLeDiff,reduceIte,aw,dQ,ck,c0];exact a_.2 ⟨by simp only[Bool.false_and],aJ⟩
 |true=>
  simp-implicitDefEqProofs(disch:=try exact af) only[FB,reduceAdd,reduceLeDiff,reduceIte,aw,dQ,ck,c0];refine gP (Lw (Φ:=λ_=>True) KY aM (λ_ _=>trivial) (eo.bo (eb.aK aJ)) (eX.bo (eb.aK aJ))) ?_;rintro _ bm ⟨rfl,bB⟩;refine⟨bB.1,?_⟩;simp-implicitDefEqProofs(disch:=try exact af) only[bg,bL];exact a_.2 ⟨by simp only[Bool.true_and],aJ.trans bB⟩
theorem eJ.uk{H:J}{ok:Nat->Prop}{l:List Fn}{v:I}(h:eJ gw H ok l v)(H':J):dF P H' .len [24] [v]=some (.int .i64 l.length):=by
 rcases h with⟨rfl,rfl⟩|⟨L,i,cap,ro,els,rfl,_⟩|⟨L,i,cap,rfl,rfl⟩
 ·exact Hm
 ·exact EB
 ·exact EB
theorem Ss{Φ:Fn->Prop}(al: ∀(a b:Fn) (cs bU:List I) (H:J) (ok ok':Nat->Prop),Φ a->gw.V H ok a cs->gw.V H ok' b bU->W (aq P ao 45 [.agg cs,.agg bU] H) λr H'=>r= .bool (pK a b)/\aR H H'){N:Nat}{l m:List Fn}(az:l.length<=1000000000)(hm:l.length=m.length)(qe: ∀a∈l,Φ a){f7 g7 gW li:Nat}{kc lc:Option Nat}{ju jv:Bool}{hc hd:List (List I)}{ok ok':Nat->Prop}:
  ∀(c j n:Nat) (H:J),j+c=l.length->c<n->H.get f7=some (.row ju 7 hc)->H.get gW=some (.row jv 7 hd)->(∀(j:Nat) (a:Fn),l[j]? =some a-> ∃cs,hc[g7+j]? =some cs/\gw.V H ok a cs)->(∀(j:Nat) (a:Fn),m[j]? =some a-> ∃cs,hd[li+j]? =some cs/\gw.V H ok' a cs)->
  W (vt (aq P ao) N n (.aN gW li m.length 7 lc) (.func (.func 45) [] []) (.aN f7 g7 l.length 7 kc) (.int .i64 l.length) (.int .i64 j) H) λr H'=>r= .bool (gL pK (l.drop j) (m.drop j))/\aR H H'
 |_,_,0,_,_,aU,_,_,_,_=>Z
 |0,j,n+1,H,aS,aU,aG,aP,aI,bc=>by
  have bH: ¬((j:Int)<(l.length:Int)):=Z;have d1:l.drop j=[]:=List.drop_eq_nil_of_le Z;have d2:m.drop j=[]:=List.drop_eq_nil_of_le Z;simp-implicitDefEqProofs(disch:=try exact af) only[vt,tX,zw,yo,bg,bL,ee,bH,decide_false];exact a_.2 ⟨by rw[d1,d2];rfl,.refl _⟩
 |c+1,j,n+1,H,aS,aU,aG,aP,aI,bc=>by
  have jK:j<l.length:=Z;have nH:j<m.length:=Z;have bH:(j:Int)<(l.length:Int):=Z;have qb:(j:Int)<(m.length:Int):=Z;have aY:(0:Int)<=(j:Int):=Z;have bz:((j:Int)).toNat=j:=Z;obtain⟨cs,g1,g2⟩:=aI j l[j] (List.getElem?_eq_getElem jK);obtain⟨bU,g4,g5⟩:=bc j m[j] (List.getElem?_eq_getElem nH);obtain⟨cu,eH⟩:=gw.len g2;obtain⟨eR,gI⟩:=gw.len g5;have ht:gw.esz=7:=rfl;rw[ht] at cu eR;have q6:List.take 7 cs=cs:=List.take_of_length_le Z;have q7:List.take 7 bU=bU:=List.take_of_length_le Z;have eG:=J.aX aG;have fA:=J.aX aP;have hw:IntKind.i64.wrap ((j:Int)+1)=((j+1:Nat):Int):=by rw[wrap_i64 Z Z];omega
  have hl:=(aR.push H (.row false 7 [cs])).bX (.row false 7 [bU]);simp-implicitDefEqProofs(disch:=try exact af) only[vt,tX,zw,yo,reduceAdd,reduceLeDiff,reduceIte,aw,bH,qb,decide_true,bz,aG,aP,g1,g4,q6,q7,cu,eH,eR,gI,List.append_nil,sx,List.nil_append];refine a6 (al l[j] m[j] _ _ _ ok ok' (qe _ (List.getElem_mem _)) (gw.bo (eb.aK hl) g2) (gw.bo (eb.aK hl) g5)) ?_;rintro _ bm ⟨rfl,aJ⟩;refine⟨aJ.1,?_⟩;have dl:l.drop j=l[j]::l.drop (j+1):=List.drop_eq_getElem_cons jK;have ql:m.drop j=m[j]::m.drop (j+1):=List.drop_eq_getElem_cons nH;cases oC:pK l[j] m[j] with
  |false=>
   simp-implicitDefEqProofs(disch:=try exact af) only[bg,bL,Bool.not_false];exact a_.2 ⟨by rw[dl,ql,gL,oC,Bool.false_and],hl.trans aJ⟩
  |true=>
   simp-implicitDefEqProofs(disch:=try exact af) only[bg,bL,ee,Bool.not_true,hw];have pp:=hl.trans aJ;refine(Ss al az hm qe (ok:=ok) (ok':=ok') c (j+1) n bm Z Z (pp.get aG) (pp.get aP) (λi a be=> ?_) (λi a be=> ?_)).mono ?_
   ·obtain⟨x,y,z⟩:=aI i a be;exact⟨x,y,gw.bo (eb.aK pp) z⟩
   ·obtain⟨x,y,z⟩:=bc i a be;exact⟨x,y,gw.bo (eb.aK pp) z⟩
   ·rintro v H' ⟨rfl,q⟩;exact⟨by rw[dl,ql,gL,oC,Bool.true_and],pp.trans q⟩
theorem aj8{Φ:Fn->Prop}(al: ∀(a b:Fn) (cs bU:List I) (H:J) (ok ok':Nat->Prop),Φ a->gw.V H ok a cs->gw.V H ok' b bU->W (aq P ao 45 [.agg cs,.agg bU] H) λr H'=>r= .bool (pK a b)/\aR H H'){H:J}{l m:List Fn}(az:l.length<=1000000000)(qe: ∀a∈l,Φ a){v w:I}{ok ok':Nat->Prop}(U:eJ gw H ok l v)(aa:eJ gw H ok' m w):W (aq P ao 44 [v,w,.func (.func 45) [] []] H) λr H'=>r= .bool (gL pK l m)/\aR H H':=by
 refine cP (λ_=>alc (l.length+1)) ?_;have bM:=λH'=>U.uk H'
 have c2:=λH'=>aa.uk H'
 have z0:((0:Nat):Int)=0:=rfl;by_cases aU:l.length=m.length
 ·by_cases cn:l.length=0
  ·have lq:m.length=0:=Z;obtain rfl:=List.length_eq_zero_iff.1 cn;obtain rfl:=List.length_eq_zero_iff.1 lq;simp-implicitDefEqProofs(disch:=try exact af) only[vt,tX,zw,yo,reduceAdd,reduceLeDiff,reduceIte,aw,bM,c2,List.length_nil,z0,bne_self_eq_false,Int.lt_irrefl,decide_false];exact a_.2 ⟨rfl,.refl _⟩
  ·obtain⟨eG,i1,cG,gm,o7,rfl,g1,eo⟩:=U.row cn;obtain⟨fA,i2,dh,e0,qW,rfl,g2,eX⟩:=aa.row Z;have wj:((l.length:Int) != (m.length:Int))=false:=by simp;omega
   have ht:gw.esz=7:=rfl;rw[ht] at bM c2 g1 g2 ⊢;simp-implicitDefEqProofs(disch:=try exact af) only[tX,yo,bg,bg,bL,ee,bM,c2,wj];have:=Ss al (N:=l.length+1) az aU qe (kc:=cG) (lc:=dh) l.length 0 (l.length+1) H Z Z g1 g2 eo eX;simpa using this
 ·have hz:((l.length:Int) != (m.length:Int))=true:=by simp;omega
  simp-implicitDefEqProofs(disch:=try exact af) only[tX,zw,yo,bg,bg,bL,ee,bM,c2,hz];exact a_.2 ⟨by rw[wS _ _ aU],.refl _⟩
def Cn(a:Fn):Prop:=a.params.length<=1000000000/\a.body.length<=1000000000/\ha 1000000000 a.body
theorem ahb(a b:Fn)(cs bU:List I)(H:J)(ok ok':Nat->Prop)(aM:Cn a)(U:gw.V H ok a cs)(aa:gw.V H ok' b bU):W (aq P ao 45 [.agg cs,.agg bU] H) λr H'=>r= .bool (pK a b)/\aR H H':=by
 obtain⟨v,bv,rfl,eo,lx⟩:=U;obtain⟨w,tn,rfl,eX,qq⟩:=aa;refine cP (λ_=>ald 0) ?_;have cR:=eo.one;have dd:=eX.one;have dG:=lx.gi;have eM:=qq.gi;have dQ: ∀l,eK l (.agg [.str a.name,v,.bool a.has,.str a.fL,.int .i64 a.rd,bv,.int .i64 a.pos])=some (.ptr l 0 0,.row false 7 [[.str a.name,v,.bool a.has,.str a.fL,.int .i64 a.rd,bv,.int .i64 a.pos]]):=λl=>h8 l _ (by simp only[List.all_cons,List.all_nil,jO,iF,yQ,cR,dG,Bool.and_self])
 have ck: ∀l,eK l (.agg [.str b.name,w,.bool b.has,.str b.fL,.int .i64 b.rd,tn,.int .i64 b.pos])=some (.ptr l 0 0,.row false 7 [[.str b.name,w,.bool b.has,.str b.fL,.int .i64 b.rd,tn,.int .i64 b.pos]]):=λl=>h8 l _ (by simp only[List.all_cons,List.all_nil,jO,iF,yQ,dd,eM,Bool.and_self])
 have aJ:=(aR.push H (.row false 7 [[.str a.name,v,.bool a.has,.str a.fL,.int .i64 a.rd,bv,.int .i64 a.pos]])).bX (.row false 7 [[.str b.name,w,.bool b.has,.str b.fL,.int .i64 b.rd,tn,.int .i64 b.pos]]);have e7:=(aR.push (H.push (.row false 7 [[.str a.name,v,.bool a.has,.str a.fL,.int .i64 a.rd,bv,.int .i64 a.pos]])) (.row false 7 [[.str b.name,w,.bool b.has,.str b.fL,.int .i64 b.rd,tn,.int .i64 b.pos]])).get (J.ca H (.row false 7 [[.str a.name,v,.bool a.has,.str a.fL,.int .i64 a.rd,bv,.int .i64 a.pos]]));have gG:=J.ca (H.push (.row false 7 [[.str a.name,v,.bool a.has,.str a.fL,.int .i64 a.rd,bv,.int .i64 a.pos]])) (.row false 7 [[.str b.name,w,.bool b.has,.str b.fL,.int .i64 b.rd,tn,.int .i64 b.pos]])
 simp only[J.b2] at gG;unfold pK;cases c0:a.name==b.name with
 |false=>
  simp-implicitDefEqProofs(disch:=try exact af) only[FD,reduceAdd,reduceLeDiff,reduceIte,aw,dQ,ck,c0];exact a_.2 ⟨by simp only[Bool.false_and],aJ⟩
 |true=>
  simp-implicitDefEqProofs(disch:=try exact af) only[FD,reduceAdd,reduceLeDiff,reduceIte,aw,dQ,ck,c0];refine gP (Lw (Φ:=λ_=>True) KY aM.1 (λ_ _=>trivial) (eo.bo (eb.aK aJ)) (eX.bo (eb.aK aJ))) ?_;rintro _ bm ⟨rfl,bB⟩;refine⟨bB.1,?_⟩;have CQ:=bB.get e7;have CR:=bB.get gG;have q5:=aJ.trans bB;cases bM:gL jD a.params b.params with
  |false=>
   simp-implicitDefEqProofs(disch:=try exact af) only[bg,bL];exact a_.2 ⟨by simp only[Bool.false_and,Bool.and_false],q5⟩
  |true=>
  cases c2:a.has==b.has with
  |false=>
   simp-implicitDefEqProofs(disch:=try exact af) only[reduceAdd,reduceLeDiff,reduceIte,aw,CQ,CR,c2];exact a_.2 ⟨by simp only[Bool.false_and,Bool.and_false],q5⟩
  |true=>
  cases c3:(a.fL==b.fL&&a.rd==b.rd) with
  |false=>
   simp-implicitDefEqProofs(disch:=try exact af) only[reduceAdd,reduceLeDiff,reduceIte,aw,CQ,CR,c2,jn,c3];exact a_.2 ⟨by simp only[Bool.false_and,Bool.and_false],q5⟩
  |true=>
   simp-implicitDefEqProofs(disch:=try exact af) only[reduceAdd,reduceLeDiff,reduceIte,aw,CQ,CR,c2,jn,c3];refine gP (Lk (B:=1000000000) cm (λe _=>KZ cm e) aM.2 (lx.aK q5) (qq.aK q5)) ?_;rintro _ ct ⟨rfl,bK⟩;refine⟨bK.1,?_⟩;simp-implicitDefEqProofs(disch:=try exact af) only[bg,bL];exact a_.2 ⟨by simp only[Bool.true_and],q5.trans bK⟩
structure zS(g:eA):Prop where
 r:g.el.length<=1000000000/\ ∀a∈g.el,a.fields.length<=1000000000
 rc:g.globals.length<=1000000000
 f:g.funcs.length<=1000000000/\ ∀a∈g.funcs,Cn a
theorem P5{g g':eA}(aM:zS g){H:J}{ok ok':Nat->Prop}{b9 b8 b_ rw iB fx:I}(U:eJ gA H ok g.el b9)(aa:eJ fz H ok g.globals b8)(ae:eJ gw H ok g.funcs b_)(cG:eJ gA H ok' g'.el rw)(dh:eJ fz H ok' g'.globals iB)(dL:eJ gw H ok' g'.funcs fx):
  W (aq P ao 14 [.agg [b9,b8,b_],.agg [rw,iB,fx]] H) λr H'=>r= .bool (xu g g')/\aR H H':=by
 refine cP (λ_=>akN 0) ?_;have cR:=U.one;have dd:=aa.one;have dG:=ae.one;have cD:=cG.one;have cu:=dh.one;have eH:=dL.one;have dQ: ∀l,eK l (.agg [b9,b8,b_])=some (.ptr l 0 0,.row false 3 [[b9,b8,b_]]):=λl=>h8 l _ (by simp only[List.all_cons,List.all_nil,cR,dd,dG,Bool.and_self])
 have ck: ∀l,eK l (.agg [rw,iB,fx])=some (.ptr l 0 0,.row false 3 [[rw,iB,fx]]):=λl=>h8 l _ (by simp only[List.all_cons,List.all_nil,cD,cu,eH,Bool.and_self])
 have aJ:=(aR.push H (.row false 3 [[b9,b8,b_]])).bX (.row false 3 [[rw,iB,fx]]);have e7:=(aR.push (H.push (.row false 3 [[b9,b8,b_]])) (.row false 3 [[rw,iB,fx]])).get (J.ca H (.row false 3 [[b9,b8,b_]]));have gG:=J.ca (H.push (.row false 3 [[b9,b8,b_]])) (.row false 3 [[rw,iB,fx]]);simp only[J.b2] at gG;unfold xu;simp-implicitDefEqProofs(disch:=try exact af) only[Iw,reduceAdd,reduceLeDiff,reduceIte,aw,dQ,ck];refine a6 (aj7 (Φ:=λa=>a.fields.length<=1000000000) ahc aM.r.1 aM.r.2 (U.bo (eb.aK aJ)) (cG.bo (eb.aK aJ))) ?_;rintro _ bm ⟨rfl,bB⟩;refine⟨bB.1,?_⟩;have CQ:=bB.get e7;have CR:=bB.get gG;have q5:=aJ.trans bB
 cases bM:gL mM g.el g'.el with
 |false=>
  simp-implicitDefEqProofs(disch:=try exact af) only[bg,bL];exact a_.2 ⟨by simp only[Bool.false_and],q5⟩
 |true=>
  simp-implicitDefEqProofs(disch:=try exact af) only[reduceAdd,reduceLeDiff,reduceIte,aw,CQ,CR];refine gP (Lw (Φ:=λ_=>True) KY aM.rc (λ_ _=>trivial) (aa.bo (eb.aK q5)) (dh.bo (eb.aK q5))) ?_;rintro _ ct ⟨rfl,bK⟩;refine⟨bK.1,?_⟩;have qY:=bK.get CQ;have r6:=bK.get CR;have Iq:=q5.trans bK;cases c2:gL jD g.globals g'.globals with
  |false=>
   simp-implicitDefEqProofs(disch:=try exact af) only[bg,bL];exact a_.2 ⟨by simp only[Bool.false_and,Bool.and_false],Iq⟩
  |true=>
   simp-implicitDefEqProofs(disch:=try exact af) only[reduceAdd,reduceLeDiff,reduceIte,aw,qY,r6];refine gP (aj8 (Φ:=Cn) ahb aM.f.1 aM.f.2 (ae.bo (eb.aK Iq)) (dL.bo (eb.aK Iq))) ?_;rintro _ dp ⟨rfl,c8⟩;refine⟨c8.1,?_⟩;simp-implicitDefEqProofs(disch:=try exact af) only[bg,bL];exact a_.2 ⟨by simp only[Bool.true_and],Iq.trans c8⟩
end
section
theorem uQ(T:List Tok)(s:aA):fE 1000000000 (eU T s).1:=by
 unfold eU;split
 ·exact fE.leaf _
 ·split
  ·rename_i e s' h;split
   ·exact(Lq T 1000000000 800000000 Z).row _ _ (e,s') h
   ·exact fE.leaf _
  ·exact fE.leaf _
theorem ha.append{B:Nat}{e:cE}(h:kn B e): ∀{l:List cE},ha B l->ha B (l++[e])
 |[],_=>by rw[List.nil_append,ha,ha];exact⟨h,trivial⟩
 |x::xs,az=>by
  rw[ha] at az;rw[List.cons_append,ha];exact⟨az.1,ha.append h az.2⟩
theorem EL(a:dH){e:bp}(h:fE 1000000000 e):kn 1000000000 (.mk a [e] [] []):=by
 rw[kn,gy,gy,ha];exact⟨⟨by simp,h,trivial⟩,⟨by simp,trivial⟩,⟨by simp,trivial⟩⟩
theorem Xc(a:dH):kn 1000000000 (.mk a [] [] []):=by
 rw[kn,gy,ha];exact⟨⟨by simp,trivial⟩,⟨by simp,trivial⟩,⟨by simp,trivial⟩⟩
theorem al3{e:cE}(p:Int)(h:kn 1000000000 e):kn 1000000000 (e.at p):=by
 cases e;rw[cE.at,kn];rw[kn] at h;exact h
structure anu(T:List Tok)(n:Nat):Prop where
 stmt: ∀s x,xF T n s=some x->kn 1000000000 x.1
 block: ∀s x,oN T n s=some x->x.1.length<=1000000000/\ha 1000000000 x.1
 loop: ∀l s x,pM T n l s=some x->l.length+n<=1000000000->ha 1000000000 l->x.1.length<=1000000000/\ha 1000000000 x.1
 choose: ∀s x,wR T n s=some x->kn 1000000000 x.1
 rep: ∀s x,wW T n s=some x->kn 1000000000 x.1
theorem Y7(T:List Tok): ∀n,n+2<=1000000000->anu T n
 |0,_=>⟨λ_ _ h=>(by cases h),λ_ _ h=>(by cases h),λ_ _ _ h=>(by cases h),λ_ _ h=>(by cases h),λ_ _ h=>(by cases h)⟩
 |n+1,aU=>by
  have aT:=Y7 T n Z;refine⟨λs x h=> ?_,λs x h=> ?_,λl s x h az aM=> ?_,λs x h=> ?_,λs x h=> ?_⟩
  ·rw[xF] at h;obtain⟨p,U,aa⟩:=hX h;cases aa;refine al3 _ ?_;have U0:kn 1000000000 (qH T s).1:=by
    unfold qH;cases b7 T (eU T s).2 4 [61] with
    |false=>exact EL _ (uQ _ _)
    |true=>
     simp only[bC,xE];cases(eU T s).1.kind==4 with
     |true=>exact EL _ (uQ _ _)
     |false=>
      simp only[bj];rw[kn,gy,gy,gy,ha];exact⟨⟨by simp,uQ _ _,uQ _ _,trivial⟩,⟨by simp,trivial⟩,⟨by simp,trivial⟩⟩
   revert U;cases(ar T s.at_).kind==3 with
   |false=>intro U;cases U;exact U0
   |true=>
    simp only[bC];cases(ar T s.at_).text==[118,97,114] with
    |true=>intro U;cases U;exact Xc _
    |false=>
    simp only[bj];cases(ar T s.at_).text==[108,101,116] with
    |true=>intro U;cases U;exact EL _ (uQ _ _)
    |false=>
    simp only[bj];cases(ar T s.at_).text==[105,102] with
    |true=>exact λU=>aT.choose _ _ U
    |false=>
    simp only[bj];cases(ar T s.at_).text==[119,104,105,108,101] with
    |true=>exact λU=>aT.rep _ _ U
    |false=>
    simp only[bj];cases(ar T s.at_).text==[114,101,116,117,114,110] with
    |true=>
     intro U;cases U;unfold xC;cases b7 T (aF s) 4 [59] with
     |true=>exact Xc _
     |false=>exact EL _ (uQ _ _)
    |false=>
    simp only[bj];cases(ar T s.at_).text==[112,114,105,110,116] with
    |true=>intro U;cases U;exact EL _ (uQ _ _)
    |false=>intro U;cases U;exact U0
  ·rw[oN] at h;have aY: ∀{l:List cE},l=[]->l.length<=1000000000/\ha 1000000000 l:=λ{l} h=>by rw[h,ha];exact⟨by simp,trivial⟩
   revert h;cases b7 T s 4 [123] with
   |false=>intro h;cases h;exact aY rfl
   |true=>
    simp only[bC];split
    ·intro h;cases h;exact aY rfl
    ·intro h;obtain⟨p,U,aa⟩:=hX h;cases aa;exact aT.loop [] _ p U (by simp;omega) (by rw[ha];trivial)
  ·rw[pM] at h;revert h;cases(s.aC==0&& !b7 T s 4 [125]) with
   |false=>intro h;cases h;exact⟨by show l.length<=1000000000;omega,aM⟩
   |true=>
    intro h;obtain⟨p,U,aa⟩:=hX h;exact aT.loop _ _ _ aa (by simp;omega) (ha.append (aT.stmt _ _ U) aM)
  ·rw[wR] at h;obtain⟨p,U,aa⟩:=hX h;obtain⟨df,cU⟩:=aT.block _ _ U;revert aa;cases b7 T p.2 3 [101,108,115,101] with
   |false=>
    intro aa;cases aa;rw[kn,gy,gy];exact⟨⟨by simp,uQ _ _,trivial⟩,⟨df,cU⟩,⟨by simp,by rw[ha];trivial⟩⟩
   |true=>
    intro aa;obtain⟨q,ae,am⟩:=hX aa;cases am;rw[kn,gy,gy];exact⟨⟨by simp,uQ _ _,trivial⟩,⟨df,cU⟩,aT.block _ _ ae⟩
  ·rw[wW] at h;obtain⟨p,U,aa⟩:=hX h;cases aa;obtain⟨df,cU⟩:=aT.block _ _ U;rw[kn,gy,gy];exact⟨⟨by simp,uQ _ _,trivial⟩,⟨df,cU⟩,⟨by simp,by rw[ha];trivial⟩⟩
end
section
set_option maxRecDepth 100000
noncomputable section
def Iv(G:av)(H:J):O:=
 aO H (G 8 [(.str [114,101,99,111,114,100,32,82,32,123,32,97,58,32,105,110,116,59,32,125,32,102,117,110,99,32,109,97,105,110,40,41,32,123,32,112,114,105,110,116,32,49,59,32,125,32,103,108,111,98,97,108,32,103,58,32,91,82,93,59])] H) λba U=>
 ab (gT ba 0) λbb=>
 ab (gT ba 1) λbu=>
 cy U [I.ap,I.ap,I.ap] λai aa=>
 cy aa [(.int .i64 0),(.int .i64 0)] λan ae=>
 a7 ae (aQ P ae 26 ai bb) λam=>
 a7 am (aQ P am 29 an bu) λaB=>
 ab (aE P 29 an 0) λbx=>
 ab (aj P aB 27 bx) λbS=>
 ab (aW P .eql 27 true bS (.int .i64 0)) λbE=>
 aD bE true aB (bh (aE P 26 ai 0)) λb1 aG=>
 aD bE true aG (qr (aj P aG 22 b1)) λcb aP=>
 aD bE true aP (λq=>iu (dF P .empty .len [22] [cb]) (dF P aP .len [22] [cb]) q) λb6 bq=>
 aD bE true bq (bh (aW P .eql 3 true b6 (.int .i64 1))) λbT bJ=>
 ab (cX bE (some bT) (some (.bool false))) λbW=>
 aD bW true bJ (bh (aE P 26 ai 1)) λcc co=>
 aD bW true co (qr (aj P co 23 cc)) λcK ds=>
 aD bW true ds (λq=>iu (dF P .empty .len [23] [cK]) (dF P ds .len [23] [cK]) q) λcM dV=>
 aD bW true dV (bh (aW P .eql 3 true cM (.int .i64 1))) λcA eN=>
 ab (cX bW (some cA) (some (.bool false))) λcx=>
 aD cx true eN (bh (aE P 26 ai 2)) λcH fI=>
 aD cx true fI (qr (aj P fI 24 cH)) λc1 f0=>
 aD cx true f0 (λq=>iu (dF P .empty .len [24] [c1]) (dF P f0 .len [24] [c1]) q) λdn hk=>
 aD cx true hk (bh (aW P .eql 3 true dn (.int .i64 1))) λdt iv=>
 ab (cX cx (some dt) (some (.bool false))) λdc=>
 aD dc true iv (bh (aE P 26 ai 1)) λdJ hZ=>
 aD dc true hZ (qr (aj P hZ 23 dJ)) λcF mv=>
 aD dc true mv (bh (dS P 23 cF (.int .i64 0))) λeC jq=>
 aD dc true jq (bh (aE P 66 eC 1)) λdy ja=>
 aD dc true ja (bh (aE P 43 dy 1)) λei oB=>
 aD dc true oB (qr (aj P oB 3 ei)) λfh jI=>
 aD dc true jI (bh (aW P .eql 3 true fh (.int .i64 1))) λej o8=>
 ab (cX dc (some ej) (some (.bool false))) λdW=>
 aD dW true o8 (bh (aE P 26 ai 0)) λfo lX=>
 aD dW true lX (qr (aj P lX 22 fo)) λfv mT=>
 aD dW true mT (bh (dS P 22 fv (.int .i64 0))) λfi p7=>
 aD dW true p7 (bh (aE P 41 fi 2)) λfU lY=>
 aD dW true lY (qr (aj P lY 3 fU)) λgb v_=>
 aD dW true v_ (bh (aW P .eql 3 true gb (.int .i64 7))) λgM p8=>
 ab (cX dW (some gM) (some (.bool false))) λe4=>
 aD e4 true p8 (qr (aj P p8 26 ai)) λgB mU=>
 aD e4 true mU (qr (aj P mU 26 ai)) λhB s4=>
 aD e4 true s4 (λq=>fk s4 (G 14 [gB,hB] s4) q) λjy Ya=>
 ab (cX e4 (some jy) (some (.bool false))) λh6=>
 aD h6 true Ya (qr (aj P Ya 26 ai)) λhQ s5=>
 aD h6 true s5 (di (.agg [I.ap,I.ap,I.ap])) λgk MR=>
 aD h6 true MR (λq=>fk MR (G 14 [hQ,gk] MR) q) λjU anS=>
 aD h6 true anS (bh (eY .not jU)) λjV anT=>
 ab (cX h6 (some jV) (some (.bool false))) λj_=>
 some (j_,anT)
theorem aiJ(G:av)(N:Nat)(H:J):bn Tryz.f12 G N (cB []) H=Iv G H:=by
 refine cL (A:=bn Tryz.f12 G N) (aL _) ?_;delta Iv;kernel_rfl
theorem akM(N:Nat){H:J}{r:I×J}(h:Iv (aq P ao) H=some r):aq P ao 12 [] H=some r:=
 cQ ad Tryz.func12 ad ad ad ((aiJ (aq P ao) N H).trans h)
end
end
section
section
variable {T:List Tok}
theorem PR: ∀(n:Nat) (l:List ec) (s:aA) (p:List ec×aA),tE T n l s=some p->p.1.length<=l.length+n
 |0,_,_,_,h=>by cases h
 |n+1,l,s,p,h=>by
  rw[tE] at h;cases aS:(s.aC==0&& !b7 T s 4 [125]) with
  |true=>
   rw[aS,bC] at h;have:=PR n _ _ _ h;simp only[List.length_append,List.length_cons,List.length_nil] at this;omega
  |false=>rw[aS,bj] at h;cases h;simp
theorem P0: ∀(n:Nat) (l:List ec) (s:aA) (p:List ec×aA),pz T n l s=some p->p.1.length<=l.length+n
 |0,_,_,_,h=>by cases h
 |n+1,l,s,p,h=>by
  rw[pz] at h;cases aS:(fj T 4 [44] s).1 with
  |true=>
   rw[aS,bC] at h;have:=P0 n _ _ _ h;simp only[me,List.length_append,List.length_cons,List.length_nil] at this;omega
  |false=>rw[aS,bj] at h;cases h;simp
theorem adf{l:List cE}{s:aA}{st:aA}(h:oN T 800000000 st=some (l,s)):(iQ l s).1.length<=1000000000/\ha 1000000000 (iQ l s).1:=by
 unfold iQ;split
 ·exact(Y7 T 800000000 Z).block _ _ h
 ·rw[ha];exact⟨by simp,trivial⟩
theorem acT(s:aA):(oO T s).1.length<=1000000000/\ha 1000000000 (oO T s).1:=by
 unfold oO;split
 ·rename_i p bw;exact adf bw
 ·rw[ha];exact⟨by simp,trivial⟩
theorem BJ{M:Nat}(jA:M<=800000000): ∀(n:Nat) (g:eA) (s:aA) (p:eA×aA),zS g->g.el.length+n<=1000000000->g.globals.length+n<=1000000000->g.funcs.length+n<=1000000000->oi T M n g s=some p->zS p.1
 |0,_,_,_,_,_,_,_,h=>by cases h
 |n+1,g,s,p,aZ,U,aa,ae,h=>by
  rw[oi] at h;cases aS:(s.aC==0&&(ar T s.at_).kind != 0) with
  |false=>rw[aS,bj] at h;cases h;exact aZ
  |true=>
   rw[aS,bC] at h;cases bM:b7 T s 3 [114,101,99,111,114,100] with
   |true=>
    rw[bM,bC] at h;obtain⟨⟨g2,s2⟩,aI,bc⟩:=hX h;have az:=Tt aI;obtain⟨q,f1,f2⟩:=hX aI;have bi:=PR _ _ _ _ f1;simp only[List.length_nil] at bi;simp only[bF,dw] at f2;obtain⟨rfl,rfl⟩:=f2;simp only at az;refine BJ jA n _ _ p ?_ ?_ ?_ ?_ bc
    ·refine⟨⟨by simp;omega,λa bV=> ?_⟩,aZ.rc,aZ.f⟩;rcases List.mem_append.1 bV with bV|bV
     ·exact aZ.r.2 a bV
     ·simp only[List.mem_cons,List.not_mem_nil,or_false] at bV;rw[bV];show q.1.length<=_;omega
    ·simp;omega
    ·simp only;omega
    ·simp only;omega
   |false=>
    rw[bM,bj] at h;cases c2:b7 T s 3 [103,108,111,98,97,108] with
    |true=>
     rw[c2,bC] at h;refine BJ jA n _ _ p ?_ ?_ ?_ ?_ h
     ·exact⟨aZ.r,by simp only[k8,List.length_append,List.length_cons,List.length_nil];omega,aZ.f⟩
     ·simp only[k8];omega
     ·simp only[k8,List.length_append,List.length_cons,List.length_nil];omega
     ·simp only[k8];omega
    |false=>
     rw[c2,bj] at h;cases c3:b7 T s 3 [102,117,110,99] with
     |true=>
      rw[c3,bC] at h;obtain⟨⟨g2,s2⟩,aI,bc⟩:=hX h;have az:=S_ aI;obtain⟨q,f1,f2⟩:=hX aI;have bi:q.1.length<=M+1:=by
       unfold yN at f1;revert f1;cases b7 T (cZ T [40] (h2 T (aF (gY T true g.funcs.length 16 s))).2).2 4 [41] with
       |true=>intro f1;rw[bC] at f1;cases f1;simp
       |false=>
        intro f1;rw[bj] at f1;have:=P0 _ _ _ _ f1;simp only[me,List.nil_append,List.length_cons,List.length_nil] at this;omega
      simp only[bF] at f2;have e7:=congrArg Prod.fst f2;refine BJ jA n g2 s2 p ?_ Z Z Z bc;simp only at e7;rw[<-e7];unfold oq;split
      ·exact aZ
      ·refine⟨aZ.r,aZ.rc,by simp;omega,λa bV=> ?_⟩;rcases List.mem_append.1 bV with bV|bV
       ·exact aZ.f.2 a bV
       ·simp only[List.mem_cons,List.not_mem_nil,or_false] at bV;rw[bV];exact⟨by show q.1.length<=_;omega,acT _⟩
     |false=>
      rw[c3,bj] at h;exact BJ jA n g _ p aZ Z Z Z h
theorem Gr:zS .none:=⟨⟨by simp[eA.none],λa bV=>by cases bV⟩,by simp[eA.none],by simp[eA.none],λa bV=>by cases bV⟩
end
theorem JT(a:ec):jD a a=true:=by simp[jD]
theorem aa3(a:jY):mM a a=true:=by simp[mM,Bz JT]
theorem aa2(a:Fn):pK a a=true:=by simp[pK,Bz JT,Ga]
theorem Po(g:eA):xu g g=true:=by simp[xu,Bz aa3,Bz JT,Bz aa2]
def GV:bl:=[114,101,99,111,114,100,32,82,32,123,32,97,58,32,105,110,116,59,32,125,32,102,117,110,99,32,109,97,105,110,40,41,32,123,32,112,114,105,110,116,32,49,59,32,125,32,103,108,111,98,97,108,32,103,58,32,91,82,93,59]
def YN:Bool:=(hL GV).2.1==0&&(match oi (hL GV).1 800000000 800000000 .none ⟨0,0,0,0⟩ with
 |some (g,s)=>s.aC==0&&(g.el.length==1&&(g.globals.length==1&&(g.funcs.length==1&&((g.el.all λx=>x.pos==7)&&(g.globals.all λx=>x.fT==1)))))
 |none=>false)
set_option maxRecDepth 100000 in
theorem ae8:YN=true:=by decide+kernel
theorem Vi{α:Type}{l:List α}(h:l.length=1): ∃a,l=[a]:=by
 rcases l with _|⟨a,_|⟨b,l⟩⟩
 ·cases h
 ·exact⟨a,rfl⟩
 ·simp at h
theorem abB{H:J}(aZ:jz.kr H):W (aq P ao 12 [] H) λv H'=>v= .bool true/\aR H H':=by
 refine cP (λ_=>akM 0) ?_;have ah:=ae8;unfold YN at ah;simp only[Bool.and_eq_true,beq_iff_eq] at ah;obtain⟨al,ah⟩:=ah;split at ah
 ·rename_i g s bw;simp only[Bool.and_eq_true,beq_iff_eq] at ah;obtain⟨aY,U,aa,ae,am,aB⟩:=ah;have eu:=BJ (bN _) 800000000 .none _ _ Gr cm cm cm bw;simp only at eu;rw[Iv];refine a6 (Pf aZ GV (M:=800000000) (n:=800000000) (bN _) (bN _) (λ_=>bw)) ?_;rintro _ H1 ⟨b9,b8,b_,rfl,gm,e0,gC,aV⟩;refine⟨aV.1,?_⟩;have ev:qP GV g s=(g,0,0):=by unfold qP xB;rw[if_pos al,if_pos aY]
  rw[ev] at gm e0 gC ⊢;simp only at gm e0 gC ⊢;have bM:=λH'=>gm.uj H'
  have c2:=λH'=>e0.qN H'
  have c3:=λH'=>gC.uk H'
  rw[U] at bM;rw[aa] at c2;rw[ae] at c3;have cR:=gm.one;have dd:=e0.one;have dG:=gC.one;have aJ:=(aV.bX (.row false 3 [[b9,b8,b_]])).bX (.row false 2 [[.int .i64 0,.int .i64 0]]);have cu:=(aR.push H1 (.row false 3 [[b9,b8,b_]])).bX (.row false 2 [[.int .i64 0,.int .i64 0]]);have aI:(((1:Nat):Int)==1)=true:=rfl;have nR:((0:Int)==0)=true:=rfl;obtain⟨a,bV⟩:=Vi aa;obtain⟨b,ax⟩:=Vi U;rw[bV] at aB;rw[ax] at am;simp only[List.all_cons,List.all_nil,Bool.and_true,beq_iff_eq] at am aB;obtain⟨bD,i1,apP,aq1,apS,yC,Jg,F2⟩:=e0.row Z;obtain⟨hC,i2,apQ,aq2,apT,ly,z2,z3⟩:=gm.row Z;obtain⟨anA,eo,eX⟩:=F2 0 a (by rw[bV];rfl)
  obtain⟨aql,ai,v2,rfl,-⟩:=z3 0 b (by rw[ax];rfl);obtain rfl:anA=a.cells:=eX;have YR:fz.esz=4:=rfl;have YQ:gA.esz=3:=rfl;rw[aa,YR] at yC;rw[U,YQ] at ly;rw[YR] at Jg;rw[YQ] at z2;simp only[ec.cells,aB,Nat.add_zero] at eo;rw[am,Nat.add_zero] at ai;have aqM:=J.aX Jg;have aqN:=J.aX z2;have aqG:((0:Int)).toNat=0:=rfl;have hle:(0:Int)<=0:=Int.le_refl _;have et:(0:Int)<((1:Nat):Int):=cm;have aoN:dS P 23 b8 (.int .i64 0)=some (.ptr bD i1 0):=by rw[yC];exact Ml hle et
  have aoO:dS P 22 b9 (.int .i64 0)=some (.ptr hC i2 0):=by rw[ly];exact Mk hle et
  have NU:((7:Int)==7)=true:=rfl;have MJ:((1:Int)==1)=true:=rfl;simp-implicitDefEqProofs(disch:=try exact af) only[reduceAdd,reduceLeDiff,reduceIte,aw,J.io,bM,c2,c3,aI,nR,cR,dd,dG,aoN,aoO,Jg,z2,eo,ai,NU,MJ];refine gP (P5 eu (gm.bo (eb.aK cu)) (e0.bo (eb.aK cu)) (gC.bo (eb.aK cu)) (gm.bo (eb.aK cu)) (e0.bo (eb.aK cu)) (gC.bo (eb.aK cu))) ?_;rintro _ bm ⟨rfl,bB⟩;refine⟨bB.1,?_⟩;have g2:=bB.get ((aR.push (H1.push (.row false 3 [[b9,b8,b_]])) (.row false 2 [[.int .i64 0,.int .i64 0]])).get (J.ca H1 (.row false 3 [[b9,b8,b_]])));have eH:=cu.trans bB;rw[Po];simp-implicitDefEqProofs(disch:=try exact af) only[reduceAdd,reduceLeDiff,reduceIte,aw,g2]
  have KS: ∀(H:J),eJ gA H (λ_=>True) eA.none.el .ap/\eJ fz H (λ_=>True) eA.none.globals .ap/\eJ gw H (λ_=>True) eA.none.funcs .ap:=λH=>⟨eJ.nil,eJ.nil,eJ.nil⟩
  refine gP (P5 (g':= .none) eu (gm.bo (eb.aK eH)) (e0.bo (eb.aK eH)) (gC.bo (eb.aK eH)) (KS _).1 (KS _).2.1 (KS _).2.2) ?_;rintro _ ct ⟨rfl,bK⟩;refine⟨bK.1,?_⟩;have dM:xu g .none=false:=by
   unfold xu;rw[wS g.el eA.none.el (by rw[U];simp[eA.none]),Bool.false_and]
  rw[dM];simp-implicitDefEqProofs(disch:=try exact af) only[bg,bL,Bool.not_false];exact a_.2 ⟨rfl,(aJ.trans bB).trans bK⟩
 ·cases ah
end
section
section
variable {T:List Tok}{s:aA}
theorem pw{x:bl}(ag:kw x=4):(cZ T x s).2=cr T x s:=by
 unfold cZ cr cd;rw[ag];cases b7 T s 4 x<;>rfl
theorem sv(h:s.aC≠0)(x:bl):(cZ T x s).2=s:=by
 unfold cZ;rw[ma h,bj];exact iP h 2
theorem su(h:s.aC≠0)(x:bl):cr T x s=s:=by
 unfold cr;rw[hv h,bj];exact iP h 2
theorem OX(h:s.aC≠0)(k:Int)(x:bl):fj T k x s=(false,s):=by unfold fj;rw[ma h,bj]
theorem Pe(h:s.aC≠0)(b:Bool)(x y:Int):gY T b x y s=s:=by
 unfold gY;cases b&&decide (y<=x)
 ·rfl
 ·rw[bC];exact iP h 4
theorem F_(h:s.aC≠0):nD T s=(([],0),s):=if_pos h
theorem JB(h:s.aC≠0):(h2 T s).2.aC=s.aC/\(h2 T s).2.cv=s.cv:=by
 unfold h2;cases((ar T s.at_).kind != 1)
 ·exact⟨rfl,rfl⟩
 ·rw[bC,iP h];exact⟨rfl,rfl⟩
theorem Dp(h:s.aC≠0):(i6 T s).2.aC=s.aC/\(i6 T s).2.cv=s.cv:=by
 obtain⟨a,b⟩:=JB (T:=T) h;have U:(h2 T s).2.aC≠0:=by rw[a];exact h
 unfold i6;simp only[sv U,F_ U];exact⟨a,b⟩
theorem yE(h:s.aC≠0)(n:Nat)(l:List ec):tE T (n+1) l s=some (l,s):=by
 have ax:(s.aC==0)=false:=by simpa using h
 rw[tE,ax];rfl
theorem Ou(h:s.aC≠0)(n:Nat)(l:List ec):wU T (n+1) l s=some (l,s):=by
 have ax:(s.aC==0)=false:=by simpa using h
 rw[wU,ax];rfl
theorem Dm(h:s.aC≠0)(n:Nat)(l:List ec):pz T (n+1) l s=some (l,s):=by
 rw[pz,OX h];rfl
theorem F3(h:s.aC≠0)(n:Nat)(l:List ec):qy T (n+1) l s=some (l,s):=by
 have ax:(s.aC==0)=false:=by simpa using h
 rw[qy,ax];rfl
theorem ZZ(h:s.aC≠0):ze T s=s:=by
 unfold ze;rw[su h,hv h];rfl
structure hJ(T:List Tok)(s:aA):Prop where
 f:s.aC=0
 a:0<=s.at_
 b:s.at_<T.length
 o:s.bR=0
 z:s.cv=0
theorem hJ.in(g:hJ T s):In ((T.length:Int)-1) s:=⟨g.a,by have:=g.b;omega,by rw[g.o];omega,by rw[g.o];omega⟩
theorem hJ.fx{s':aA}{k:Int}(g:hJ T s)(h:fp ((T.length:Int)-1) s s' k)(ah:0<=k)(cn:s'.cv=s.cv):hJ T s':=⟨h.rb,by have:=h.a;have:=g.a;omega,by have:=h.b;omega,by rw[h.o];exact g.o,by rw[cn];exact g.z⟩
theorem hJ.take(aH:hG T)(g:hJ T s){x:bl}(al:(cr T x s).aC=0):hJ T (cr T x s)/\s.at_+1<=(cr T x s).at_:=by
 obtain⟨U,aa,ae⟩:=mc aH.g (λ_=>g.in) al;exact⟨g.fx ae Z (by rw[aa];rfl),ae.a⟩
theorem hJ.go(aH:hG T)(g:hJ T s)(ah:(ar T s.at_).kind≠0):hJ T (aF s)/\s.at_+1<=(aF s).at_:=by
 obtain⟨U,aa⟩:=go_ok aH.g g.in g.f ah;exact⟨g.fx aa Z rfl,aa.a⟩
theorem hJ.typed(aH:hG T)(g:hJ T s)(al:(gh T s).2.aC=0):hJ T (gh T s).2/\s.at_+3<=(gh T s).2.at_:=by
 obtain⟨-,-,fx⟩:=Sg aH.g (λ_=>g.in) al;have ng:=Ks aH.n (s:=s) (x:=s) g.f ⟨rfl,rfl,bN _⟩ g.z;have cn:(gh T s).2.cv=s.cv:=by
  rcases ng.1 with⟨U,e⟩|⟨U,aa,-⟩
  ·rw[e];exact(ng.2 U).2.1
  ·rw[aa] at al;exact absurd al U
 exact⟨g.fx fx Z cn,fx.a⟩
theorem KH(aH:hG T)(g:hJ T s):e8 (i6 T s) (hV T s):=by
 have qa:(s.aC==0)=true:=by rw[g.f];rfl
 unfold i6 hV gh h2 dk;rw[qa,Bool.true_and];cases ah:(ar T s.at_).kind==1 with
 |true=>
  have e3:((ar T s.at_).kind != 1)=false:=by rw[bne,ah];rfl
  have js:(ar T s.at_).kind≠0:=by
   have U:(ar T s.at_).kind=1:=by simpa using ah
   omega
  simp only[e3,bj,bC];rw[pw cm];have g1:=(g.go aH js).1;by_cases aa:(cr T [58] (aF s)).aC=0
  ·have g2:=(g1.take aH aa).1;rw[show nD T (cr T [58] (aF s))=my T (cr T [58] (aF s)) from if_neg (λh=>h aa)];have ng:=(Ha aH.n (s:=cr T [58] (aF s)) (x:=cr T [58] (aF s)) aa ⟨rfl,rfl,bN _⟩ g2.z).1;exact e8.na ng.mA λal=>by rw[ng.eq al]
  ·rw[F_ aa,DB aa];exact .inr ⟨aa,rfl,rfl⟩
 |false=>
  have e3:((ar T s.at_).kind != 1)=true:=by rw[bne,ah];rfl
  have U:(cS T 2 s).aC≠0:=iZ cm;simp only[e3,bj,bC];rw[sv U,F_ U,su U,DB U];exact .inr ⟨U,rfl,rfl⟩
theorem sP(s:aA){x:bl}(h:kw x=4):cd T s x=b7 T s 4 x:=by unfold cd;rw[h]
theorem LN(s:aA){x:bl}(h:kw x=3):cd T s x=b7 T s 3 x:=by unfold cd;rw[h]
theorem Qy(aH:hG T): ∀(k:Nat) (s:aA) (l:List ec),(s.aC=0->hJ T s/\(T.length:Int)-s.at_<=k/\l.length<=8)-> ∀n cg,k+1<=n->k+1<=cg-> ∃p q,tE T n l s=some p/\wU T cg l s=some q/\e8 p q/\(p.2.aC=0->hJ T p.2/\s.at_<=p.2.at_)
 |k,s,l,h,0,_,aU,_=>Z
 |k,s,l,h,_,0,_,aU=>Z
 |k,s,l,h,n+1,cg+1,aU,hz=>by
  by_cases al:s.aC=0
  ·obtain⟨g,ah,az⟩:=h al;have qa:(s.aC==0)=true:=by rw[al];rfl
   rw[tE,wU,qa,sP s cm];cases ag:b7 T s 4 [125] with
   |true=>exact⟨_,_,rfl,rfl,.inl ⟨al,rfl⟩,λ_=>⟨g,Int.le_refl _⟩⟩
   |false=>
    simp only[Bool.not_false,Bool.and_true,bC];have ax:=g.b;have bV:=g.a;obtain⟨n,rfl⟩: ∃m,n=m+1:=⟨n-1,Z⟩;obtain⟨cg,rfl⟩: ∃m,cg=m+1:=⟨cg-1,Z⟩;cases hm:((ar T s.at_).kind==1&&l.length==8) with
    |true=>
     simp only[Bool.and_eq_true,beq_iff_eq] at hm;have aI:gY T ((ar T s.at_).kind==1) l.length 8 s=cS T 4 s:=by
      unfold gY;rw[show((ar T s.at_).kind==1)=true by simpa using hm.1,show decide ((8:Int)<=(l.length:Int))=true by rw[hm.2];rfl];rfl
     have U:(cS T 4 s).aC≠0:=iZ cm;rw[aI,bC];obtain⟨bf,a2⟩:=Dp (T:=T) U;have aa:(i6 T (cS T 4 s)).2.aC≠0:=by rw[bf];exact U
     rw[sv aa,yE aa];exact⟨_,_,rfl,rfl,.inr ⟨aa,bf.symm,a2.symm⟩,λb0=>absurd b0 aa⟩
    |false=>
     have aI:gY T ((ar T s.at_).kind==1) l.length 8 s=s:=by
      unfold gY;cases js:(ar T s.at_).kind==1 with
      |false=>rfl
      |true=>
       rw[js,Bool.true_and] at hm;have:l.length≠8:=by simpa using hm
       rw[show decide ((8:Int)<=(l.length:Int))=false from decide_eq_false Z];rfl
     rw[aI,bj];rcases KH aH g with⟨U,e⟩|⟨U,aa,ae⟩
     ·rw[<-e,<-pw (x:=[59]) cm];rw[<-e] at U;obtain⟨g2,cU⟩:=g.typed aH (show(gh T s).2.aC=0 from U);have cN:(hV T s).2=(gh T s).2:=rfl;have Na:(ar T s.at_).kind=1:=by
       have j7:(dk T s).2.aC=0:=by
        by_cases bi:(dk T s).2.aC=0
        ·exact bi
        ·exfalso;have:(gh T s).2.aC≠0:=by
          unfold gh;simp only[su bi,DB bi];exact bi
         exact this U
       unfold dk at j7;rw[qa,Bool.true_and] at j7;cases bi:(ar T s.at_).kind==1 with
       |true=>simpa using bi
       |false=>rw[bi,bj] at j7;exact absurd j7 (iZ cm)
      have je:l.length≠8:=by
       rw[Na] at hm;simpa using hm
      obtain⟨p,q,f1,f2,f3,f4⟩:=Qy aH (k-1) ((cZ T [59] (hV T s).2).2) (l++[(hV T s).1]) (λbi=>by
       rw[pw cm] at bi ⊢;rw[cN] at bi ⊢;obtain⟨g3,b3⟩:=g2.take aH bi;exact⟨g3,Z,by simp;omega⟩) (n+1) (cg+1) Z Z
      refine⟨p,q,f1,f2,f3,λb0=> ?_⟩;obtain⟨g4,eB⟩:=f4 b0;refine⟨g4,?_⟩;have bi:(cZ T [59] (hV T s).2).2.aC=0:=by
       by_cases bi:(cZ T [59] (hV T s).2).2.aC=0
       ·exact bi
       ·rw[yE bi] at f1;cases f1;exact absurd b0 bi
      rw[pw cm,cN] at bi eB;have:=(g2.take aH bi).2;omega
     ·have am:(hV T s).2.aC≠0:=by rw[aa];exact U
      rw[sv U,yE U,su am,Ou am];exact⟨_,_,rfl,rfl,.inr ⟨U,aa,ae⟩,λb0=>absurd b0 U⟩
  ·rw[yE al,Ou al];exact⟨_,_,rfl,rfl,.inr ⟨al,rfl,rfl⟩,λb0=>absurd b0 al⟩
end
end
section
section
variable {T:List Tok}{s:aA}
theorem acK(U:(gh T s).2.aC=0):s.aC=0/\(ar T s.at_).kind=1:=by
 have j7:(dk T s).2.aC=0:=by
  by_cases bi:(dk T s).2.aC=0
  ·exact bi
  ·exfalso;have:(gh T s).2.aC≠0:=by
    unfold gh;simp only[su bi,DB bi];exact bi
   exact this U
 have al:s.aC=0:=by
  by_cases bi:s.aC=0
  ·exact bi
  ·rw[F5 bi] at j7;exact j7
 have qa:(s.aC==0)=true:=by rw[al];rfl
 refine⟨al,?_⟩;unfold dk at j7;rw[qa,Bool.true_and] at j7;cases bi:(ar T s.at_).kind==1 with
 |true=>simpa using bi
 |false=>rw[bi,bj] at j7;exact absurd j7 (iZ cm)
theorem afc(h:(ar T s.at_).kind=1){n:Nat}{m:Int}(hm:m<=n):gY T ((ar T s.at_).kind==1) n m s=cS T 4 s:=by
 unfold gY;rw[show((ar T s.at_).kind==1)=true by simpa using h,show decide (m<=(n:Int))=true from decide_eq_true hm];rfl
theorem DF{b:Bool}{n:Nat}{m:Int}(hm:b=true->(n:Int)<m):gY T b n m s=s:=by
 unfold gY;cases b with
 |false=>rfl
 |true=>
  rw[show decide (m<=(n:Int))=false from decide_eq_false (by have:=hm rfl;omega)];rfl
theorem Gm{k:Int}{x y:bl}(h:b7 T s k x=true)(aU:x≠y):b7 T s k y=false:=by
 obtain⟨-,-,ae⟩:=sA h;cases ax:b7 T s k y with
 |false=>rfl
 |true=>obtain⟨-,-,am⟩:=sA ax;exact absurd (ae.symm.trans am) aU
theorem U2{k:Int}{x:bl}(h:b7 T s k x=true)(ah:k≠0):(ar T s.at_).kind≠0:=by rw[(sA h).2.1];exact ah
def yx(T:List Tok)(p q:List ec×aA):Prop:=e8 (p.1,(cZ T [41] p.2).2) (q.1,cr T [41] q.2)
theorem yx.failed{p q:List ec×aA}(U:p.2.aC≠0)(aa:q.2.aC=p.2.aC)(ae:q.2.cv=p.2.cv):yx T p q:=by
 unfold yx;rw[sv U,su (by rw[aa];exact U)];exact .inr ⟨U,aa,ae⟩
theorem e8.rfl'{α:Type}(p:α×aA):e8 p p:=by
 by_cases h:p.2.aC=0
 ·exact .inl ⟨h,rfl⟩
 ·exact .inr ⟨h,rfl,rfl⟩
theorem QQ(aH:hG T): ∀(k:Nat) (t:aA) (l:List ec),(t.aC=0->hJ T t/\(T.length:Int)-t.at_<=k/\l.length<=6/\b7 T t 4 [41]=false)-> ∀n cg,k+1<=n->k+2<=cg-> ∃p q,pz T n (me T l t).1 (me T l t).2=some p/\qy T cg l t=some q/\yx T p q/\(p.2.aC=0->t.aC=0/\hJ T p.2/\t.at_<=p.2.at_)
 |k,t,l,h,0,_,aU,_=>Z
 |k,t,l,h,_,0,_,aU=>Z
 |k,t,l,h,n+1,cg+1,aU,hz=>by
  by_cases al:t.aC=0
  ·obtain⟨g,ah,az,ag⟩:=h al;have qa:(t.aC==0)=true:=by rw[al];rfl
   have ax:=g.b;have bV:=g.a;rw[qy,qa,sP t cm,ag];simp only[Bool.not_false,Bool.and_true,bC];obtain⟨cg,rfl⟩: ∃m,cg=m+1:=⟨cg-1,Z⟩;unfold me;cases hm:((ar T t.at_).kind==1&&l.length==6) with
   |true=>
    simp only[Bool.and_eq_true,beq_iff_eq] at hm;rw[afc hm.1 (by rw[hm.2];decide),bC];have U:(cS T 4 t).aC≠0:=iZ cm;obtain⟨bf,a2⟩:=Dp (T:=T) U;have aa:(i6 T (cS T 4 t)).2.aC≠0:=by rw[bf];exact U
    rw[Dm aa];exact⟨_,_,rfl,rfl,.failed aa bf.symm a2.symm,λb0=>absurd b0 aa⟩
   |false=>
    have aI:gY T ((ar T t.at_).kind==1) l.length 6 t=t:=DF λjs=>by
     rw[js,Bool.true_and] at hm;have:l.length≠6:=by simpa using hm
     omega
    rw[aI,bj];rcases KH aH g with⟨U,e⟩|⟨U,aa,ae⟩
    ·rw[<-e];rw[<-e] at U;have ft:(gh T t).2.aC=0:=U;obtain⟨g2,cU⟩:=g.typed aH ft;have je:l.length≠6:=by
      have bi:((ar T t.at_).kind==1)=true:=by simpa using(acK ft).2
      rw[bi,Bool.true_and] at hm;simpa using hm
     have cN:(hV T t).2=(gh T t).2:=rfl;rw[cN];generalize (gh T t).2=s2 at ft g2 cU;generalize (hV T t).1=w;cases aS:b7 T s2 4 [44] with
     |true=>
      have amq:b7 T s2 4 [41]=false:=Gm aS cm;have wA:pz T (n+1) (l++[w]) s2=pz T n (me T (l++[w]) (aF s2)).1 (me T (l++[w]) (aF s2)).2:=by
       rw[pz];unfold fj;rw[aS];rfl
      rw[wA,sP s2 cm,amq,bj];obtain⟨g3,b3⟩:=g2.go aH (U2 aS cm);have NV:cr T [44] s2=aF s2:=by unfold cr;rw[sP s2 cm,aS];rfl
      unfold ze;rw[NV,sP (aF s2) cm];cases bd:b7 T (aF s2) 4 [41] with
      |true=>
       rw[bC];have am:(cS T 2 (aF s2)).aC≠0:=iZ cm;have Yt:(ar T (aF s2).at_).kind=4:=(sA bd).2.1;have bc:gY T ((ar T (aF s2).at_).kind==1) (l++[w]).length 6 (aF s2)=aF s2:=DF λjs=>by
        rw[Yt] at js;exact absurd js cm
       have dq:(i6 T (aF s2)).2.aC=(cS T 2 (aF s2)).aC/\(i6 T (aF s2)).2.cv=(cS T 2 (aF s2)).cv:=by
        have Ij:h2 T (aF s2)=(.none,cS T 2 (aF s2)):=by
         unfold h2;rw[Yt];rfl
        unfold i6;rw[Ij];simp only[sv am,F_ am,and_self]
       have aB:(i6 T (aF s2)).2.aC≠0:=by rw[dq.1];exact am
       obtain⟨n,rfl⟩: ∃m,n=m+1:=⟨n-1,Z⟩;unfold me;rw[bc,Dm aB,F3 am];exact⟨_,_,rfl,rfl,.failed aB dq.1.symm dq.2.symm,λb0=>absurd b0 aB⟩
      |false=>
       rw[bj];obtain⟨p,q,f1,f2,f3,f4⟩:=QQ aH (k-1) (aF s2) (l++[w]) (λ_=>⟨g3,Z,by simp;omega,bd⟩) n (cg+1) Z Z;exact⟨p,q,f1,f2,f3,λb0=>⟨al,(f4 b0).2.1,by have:=(f4 b0).2.2;omega⟩⟩
     |false=>
      have wA:pz T (n+1) (l++[w]) s2=some (l++[w],s2):=by
       rw[pz];unfold fj;rw[aS];rfl
      rw[wA];cases bd:b7 T s2 4 [41] with
      |true=>
       rw[sP s2 cm,bd,bC];have:qy T (cg+1) (l++[w]) s2=some (l++[w],s2):=by
        rw[qy,sP s2 cm,bd,Bool.not_true,Bool.and_false,bj]
       refine⟨_,_,rfl,this,?_,λ_=>⟨al,g2,by show t.at_<=s2.at_;omega⟩⟩;unfold yx;rw[pw cm];exact e8.rfl' _
      |false=>
       rw[sP s2 cm,bd,bj];have am:(cS T 2 s2).aC≠0:=iZ cm;have NV:cr T [44] s2=cS T 2 s2:=by unfold cr;rw[sP s2 cm,aS];rfl
       have apg:ze T s2=cS T 2 s2:=by unfold ze;rw[NV,hv am];rfl
       rw[apg,F3 am];refine⟨_,_,rfl,rfl,?_,λ_=>⟨al,g2,by show t.at_<=s2.at_;omega⟩⟩;unfold yx;have aph:(cZ T [41] s2).2=cS T 2 s2:=by unfold cZ;rw[bd];rfl
       simp only[aph,su am];exact e8.rfl' _
    ·have am:(hV T t).2.aC≠0:=by rw[aa];exact U
     rw[Dm U,hv am,bj,ZZ am,F3 am];exact⟨_,_,rfl,rfl,.failed U aa ae,λb0=>absurd b0 U⟩
  ·unfold me;rw[Pe al];obtain⟨bf,a2⟩:=Dp (T:=T) al;have aa:(i6 T t).2.aC≠0:=by rw[bf];exact al
   rw[Dm aa,F3 al];exact⟨_,_,rfl,rfl,.failed aa bf.symm a2.symm,λb0=>absurd b0 aa⟩
theorem aaG(aH:hG T)(t:aA)(h:t.aC=0->hJ T t): ∃p q,yN T 800000000 t=some p/\qy T 800000000 [] t=some q/\yx T p q/\(p.2.aC=0->t.aC=0/\hJ T p.2/\t.at_<=p.2.at_):=by
 have aU:=aH.n;unfold yN;cases ax:b7 T t 4 [41] with
 |true=>
  have g:=h (sA ax).1;rw[bC];have:qy T 800000000 [] t=some ([],t):=by
   rw[show(800000000:Nat)=799999999+1 from rfl,qy,sP t cm,ax,Bool.not_true,Bool.and_false,bj]
  refine⟨_,_,rfl,this,?_,λ_=>⟨(sA ax).1,g,Int.le_refl _⟩⟩;unfold yx;rw[pw cm];exact e8.rfl' _
 |false=>
  rw[bj];exact QQ aH T.length t [] (λal=>⟨h al,by have:=(h al).a;omega,cm,ax⟩) _ _ Z Z
theorem ae4(aH:hG T){p:aA}{s':aA}(h:ho (cZ T [41] p).2 s')(aZ:(cZ T [41] p).2.aC=0->hJ T (cZ T [41] p).2):e8 (j3 T p) (rZ T s')/\((j3 T p).2.aC=0->(cZ T [41] p).2.aC=0/\hJ T (j3 T p).2/\(cZ T [41] p).2.at_<=(j3 T p).2.at_):=by
 unfold j3;generalize (cZ T [41] p).2=w at h aZ;unfold rZ fj;rcases h with⟨h,rfl⟩|⟨U,aa,ae⟩
 ·have g:=aZ h;rw[sP s' cm];cases aS:b7 T s' 4 [58] with
  |true=>
   simp only[bC];obtain⟨g2,cU⟩:=g.go aH (U2 aS cm);rw[show nD T (aF s')=my T (aF s') from if_neg (λh=>h g2.f)];obtain⟨MF,anw⟩:=Ha aH.n (s:=aF s') (x:=aF s') g2.f ⟨rfl,rfl,bN _⟩ g2.z;refine⟨e8.na MF.mA λal=>by rw[MF.eq al],λal=> ?_⟩;obtain⟨bM,c2,-⟩:=anw al;have eq:=MF.eq al;obtain⟨-,fx⟩:=Ej aH.g (λ_=>g2.in) (show(fm T (aF s')).2.aC=0 by rw[eq];exact al);rw[eq] at fx;exact⟨h,g2.fx fx Z c2,by have:=fx.a;show s'.at_<=(my T (aF s')).2.at_;omega⟩
  |false=>
   simp only[bj];exact⟨e8.rfl' _,λ_=>⟨h,g,Int.le_refl _⟩⟩
 ·have bZ:s'.aC≠0:=by rw[aa];exact U
  rw[ma U,hv bZ];exact⟨.inr ⟨U,aa,ae⟩,λal=>absurd al U⟩
end
end
section
section
variable {T:List Tok}{s t:aA}
theorem af1(aH:hG T)(g:hJ T t):(h2 T t).2=(dk T t).2/\((dk T t).2.aC=0->(h2 T t).1.text=(dk T t).1/\(h2 T t).1.pos=(ar T t.at_).pos/\hJ T (dk T t).2/\t.at_+1<=(dk T t).2.at_):=by
 have qa:(t.aC==0)=true:=by rw[g.f];rfl
 unfold h2 dk;rw[qa,Bool.true_and];cases ah:(ar T t.at_).kind==1 with
 |true=>
  have e3:((ar T t.at_).kind != 1)=false:=by rw[bne,ah];rfl
  have js:(ar T t.at_).kind≠0:=by
   have U:(ar T t.at_).kind=1:=by simpa using ah
   omega
  rw[e3,bj,bC];exact⟨rfl,λ_=>⟨rfl,rfl,g.go aH js⟩⟩
 |false=>
  have e3:((ar T t.at_).kind != 1)=true:=by rw[bne,ah];rfl
  rw[e3,bC,bj];exact⟨rfl,λal=>absurd al (iZ cm)⟩
theorem za(x:bl)(h:(cr T x s).aC=0):s.aC=0:=by
 by_cases aM:s.aC=0
 ·exact aM
 ·rw[su aM] at h;exact h
theorem Tm(aH:hG T)(g:hJ T t){x:bl}(ag:kw x=4):(cZ T x (h2 T t).2).2=cr T x (dk T t).2/\((cr T x (dk T t).2).aC=0->(h2 T t).1.text=(dk T t).1/\(h2 T t).1.pos=(ar T t.at_).pos/\hJ T (cr T x (dk T t).2)/\t.at_+2<=(cr T x (dk T t).2).at_):=by
 obtain⟨bf,a2⟩:=af1 aH g;rw[pw ag,bf];refine⟨rfl,λal=> ?_⟩;obtain⟨bM,c2,c3,c4⟩:=a2 (za x al);obtain⟨d1,d2⟩:=c3.take aH al;exact⟨bM,c2,d1,Z⟩
theorem adk(aH:hG T)(g:eA)(gs:hJ T s)(ah:(ar T s.at_).kind≠0)(az:g.el.length<12): ∃p q,wV T 800000000 g s=some p/\yT T 800000000 (aF s)=some q/\e8 p ({g with el:=g.el++[q.1]},q.2)/\(p.2.aC=0->hJ T p.2/\s.at_+1<=p.2.at_):=by
 have aU:=aH.n;obtain⟨g1,df⟩:=gs.go aH ah;have aI:gY T true g.el.length 12 s=s:=DF λ_=>Z
 unfold wV yT;rw[aI];obtain⟨bf,a2⟩:=Tm aH g1 (x:=[123]) cm;rw[bf];obtain⟨p,q,f1,f2,f3,f4⟩:=Qy aH T.length (cr T [123] (dk T (aF s)).2) [] (λal=>⟨(a2 al).2.2.1,by have:=(a2 al).2.2.1.a;omega,cm⟩) 800000000 800000000 Z Z;rw[f1,f2];refine⟨_,_,rfl,rfl,e8.na (Bt f3.mA cm) λal=> ?_,λal=> ?_⟩
 ·have e1:(cZ T [125] p.2).2.aC=0:=al;have aY:p.2.aC=0:=by rw[pw cm] at e1;exact za _ e1
  obtain⟨g4,eB⟩:=f4 aY;have U:(cr T [123] (dk T (aF s)).2).aC=0:=by
   by_cases bi:(cr T [123] (dk T (aF s)).2).aC=0
   ·exact bi
   ·rw[show(800000000:Nat)=799999999+1 from rfl,yE bi] at f1;cases f1;exact absurd aY bi
  obtain⟨bM,c2,-,-⟩:=a2 U;rw[bM,c2,f3.eq aY]
 ·have e1:(cZ T [125] p.2).2.aC=0:=al;rw[pw cm] at e1;have aY:p.2.aC=0:=za _ e1;obtain⟨g4,eB⟩:=f4 aY;have U:(cr T [123] (dk T (aF s)).2).aC=0:=by
   by_cases bi:(cr T [123] (dk T (aF s)).2).aC=0
   ·exact bi
   ·rw[show(800000000:Nat)=799999999+1 from rfl,yE bi] at f1;cases f1;exact absurd aY bi
  obtain⟨-,-,-,c4⟩:=a2 U;obtain⟨d1,d2⟩:=g4.take aH e1;simp only[pw (show kw [125]=4 by decide)];exact⟨d1,Z⟩
theorem ac3(aH:hG T)(g:eA)(gs:hJ T s)(ah:(ar T s.at_).kind≠0)(az:g.globals.length<8):e8 (k8 T g s) ({g with globals:=g.globals++[(hV T (aF s)).1]},cr T [59] (hV T (aF s)).2)/\((k8 T g s).2.aC=0->hJ T (k8 T g s).2/\s.at_+1<=(k8 T g s).2.at_):=by
 obtain⟨g1,df⟩:=gs.go aH ah;have aI:gY T true g.globals.length 8 s=s:=DF λ_=>Z
 unfold k8;rw[aI];have ng:=KH aH g1;refine⟨e8.na (Bt ng.mA cm) λal=> ?_,λal=> ?_⟩
 ·have e1:(cZ T [59] (i6 T (aF s)).2).2.aC=0:=al;rw[pw cm] at e1;rw[ng.eq (za _ e1)]
 ·have e1:(cZ T [59] (i6 T (aF s)).2).2.aC=0:=al;rw[pw cm] at e1;have eq:=ng.eq (za _ e1);simp only[pw (show kw [59]=4 by decide)];have aY:=za _ e1;rw[<-eq] at e1 aY ⊢;obtain⟨bM,c2⟩:=g1.typed aH (show(gh T (aF s)).2.aC=0 from aY);obtain⟨d1,d2⟩:=bM.take aH e1;exact⟨d1,by show s.at_+1<=(cr T [59] (gh T (aF s)).2).at_;omega⟩
theorem ZW(h:s.aC≠0)(n:Nat): ∃q,lE T (n+2) s=some q/\q.2.aC=s.aC/\q.2.cv=s.cv:=by
 have U:(iK s).aC≠0:=h;have ax:((iK s).aC==0)=false:=by simpa using U
 have aI:eT T [123] s=iK s:=by
  unfold eT;rw[hv h,su h];rfl
 rw[lE,aI,pS,ax,Bool.false_and,bj,Option.bind_some];refine⟨_,rfl,?_,?_⟩
 ·unfold gp;rw[su U];rfl
 ·unfold gp;rw[su U];rfl
theorem aeU(aH:hG T)(g:hJ T s): ∃q,lE T 800000000 s=some q/\e8 (oO T s) q/\((oO T s).2.aC=0->hJ T (oO T s).2/\s.at_<=(oO T s).2.at_):=by
 have nR:lI s.at_ 0=s:=by
  have:=Pv (x:=s) g.f g.z (by rw[g.o];exact Int.le_refl 0);rw[g.o] at this;exact this
 obtain⟨p,q,aI,bc,-,ng⟩:=PL aH.n s.at_ 0;rw[nR] at bc ng;refine⟨q,bc,?_⟩;unfold oO;rw[aI];by_cases al:p.2.aC=0
 ·have eq:=ng.1.eq al;obtain⟨bM,c2,-⟩:=ng.2 al;have FS:ot p.2.at_ 0 0 s=p.2:=by
   unfold ot;rw[if_neg (λh=>h rfl)];have:=g.f;have:=g.o;have:=g.z;cases s;cases bw:p.2;rw[bw] at al bM c2
   simp_all
  simp only[iQ,if_pos al,FS];obtain⟨fx,-,-⟩:=(Lo aH.g (XW aH.n) 800000000).block s q (λ_=>g.in) bc (by rw[eq];exact al);rw[eq] at fx;exact⟨.inl ⟨al,eq⟩,λ_=>⟨g.fx fx Z c2,by have:=fx.a;omega⟩⟩
 ·simp only[iQ,if_neg al];have FS:ot 0 p.2.aC p.2.cv s={s with aC:=p.2.aC,cv:=p.2.cv}:=if_pos al;rw[FS];rcases ng.1 with⟨h,-⟩|⟨-,aa,ae⟩
  ·exact absurd h al
  ·exact⟨.inr ⟨al,aa,ae⟩,λh=>absurd h al⟩
theorem aaI(aH:hG T)(g:eA)(gs:hJ T s)(ah:(ar T s.at_).kind≠0)(az:g.funcs.length<16): ∃p q,wN T 800000000 g s=some p/\yJ T 800000000 (aF s)=some q/\e8 p ({g with funcs:=g.funcs++[q.1]},q.2)/\(p.2.aC=0->hJ T p.2/\s.at_+1<=p.2.at_/\p.1.funcs.length=g.funcs.length+1):=by
 obtain⟨g1,df⟩:=gs.go aH ah;have aI:gY T true g.funcs.length 16 s=s:=DF λ_=>Z
 unfold wN yJ;rw[aI];obtain⟨bf,a2⟩:=Tm aH g1 (x:=[40]) cm;rw[bf];obtain⟨p,q,f1,f2,f3,f4⟩:=aaG aH (cr T [40] (dk T (aF s)).2) (λal=>(a2 al).2.2.1);rw[f1,f2];simp only[Option.bind_some];have hw:(cZ T [41] p.2).2.aC=0->p.2.aC=0/\hJ T (cZ T [41] p.2).2/\p.2.at_<=(cZ T [41] p.2).2.at_:=λal=>by
  rw[pw cm] at al ⊢;have aY:=za _ al;obtain⟨-,g4,-⟩:=f4 aY;obtain⟨d1,d2⟩:=g4.take aH al;exact⟨aY,d1,Z⟩
 obtain⟨gm,e0⟩:=ae4 aH (p:=p.2) (s':=cr T [41] q.2) f3.mA λal=>(hw al).2.1
 by_cases ae:(j3 T p.2).2.aC=0
 ·obtain⟨cG,dh,dL⟩:=e0 ae;obtain⟨gf,-,jB⟩:=hw cG;obtain⟨j0,uZ,Zr⟩:=f4 gf;obtain⟨bM,c2,c3,c4⟩:=a2 j0;have FT:=gm.eq ae;have eq:q.1=p.1:=(Prod.ext_iff.1 (f3.eq cG)).1;obtain⟨b,m1,m2,m3⟩:=aeU aH dh;rw[FT,m1];refine⟨_,_,rfl,rfl,?_⟩;unfold oq;rw[if_neg (λh=>h ae)];refine⟨e8.na m2.mA λal=> ?_,λal=> ?_⟩
  ·rw[m2.eq al,bM,c2,eq]
  ·obtain⟨fB,n2⟩:=m3 al;exact⟨fB,by show s.at_+1<=(oO T (j3 T p.2).2).2.at_;omega,by simp⟩
 ·rcases gm with⟨h,-⟩|⟨-,am,aB⟩
  ·exact absurd h ae
  ·obtain⟨b,m1,m2,m3⟩:=ZW (T:=T) (s:=(rZ T (cr T [41] q.2)).2) (by rw[am];exact ae) 799999998;rw[show(800000000:Nat)=799999998+2 from rfl,m1];refine⟨_,_,rfl,rfl,?_⟩;unfold oq;rw[if_pos ae];exact⟨.inr ⟨ae,m2.trans am,m3.trans aB⟩,λh=>absurd h ae⟩
end
end
end Go.Proofs.YtghmbpmaafnodaaGreatDoor
