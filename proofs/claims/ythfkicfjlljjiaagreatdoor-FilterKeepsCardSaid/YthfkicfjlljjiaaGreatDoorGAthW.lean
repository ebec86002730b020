/- Joined texts. -/
import Derived.Test.YthfkicfjlljjiaaGreatDoorGAthH
set_option maxHeartbeats 40000000
namespace Go.Proofs.YthfkicfjlljjiaaGreatDoor
open Go.RowKit
set_option maxRecDepth 10000
theorem Ko(a:qj)(c:a.host.six.length=8):(bU a)[0]? = some (S a.user)/\(bU a)[1]? = some (S a.pass)/\(bU a)[13]? = some (.bool a.bz)/\(bU a)[14]? = some (.int .i64 a.port)/\(bU a)[2]? = some (.int .i64 a.host.kind):=by
 obtain⟨u,p,⟨k,nm,f,six⟩,hp,po⟩:=a;simp only at c;obtain⟨b1,G,b3,b4,b5,b6,b7,b8,rfl⟩:=eight c;exact⟨rfl,rfl,rfl,rfl,rfl⟩
theorem Uf(a:qj):∀ j v,(aS a.host)[j]? = some v->(bU a)[2+j]? = some v:=by
 intro j v h;have hj:=(bh.1 h).1;rw[cf];unfold kq;rw[bB,dB Oc,cX (by simp;omega)]
 simpa using h

theorem Wo{l s u p:O}(h:JG l=some (s,u,p)):u.length<=3*l.length/\p.length<=3*l.length:=by
 unfold JG at h;cases d:zL l with
 |none =>
  rw[d]at h;injection h with h
  injection h with Y I
  injection I with I c
  rw[<-I,<-c];simp
 |some v =>
  obtain⟨a,rest⟩:=v;rw[d]at h;dsimp only at h
  split at h
  ·cases h
  injection h with h
  injection h with Y I
  injection I with I c
  have hw:a.length<=l.length:=by
   rw[(Xj d).1];simp
  have e:=congrArg List.length (mn 58 a);have g:(bQ 58 a).2.2=false->(bQ 58 a).2.1=[]:=gm 58 _;rw[ae]at e
  have k1:(qH a).1.length<=a.length/\(qH a).2.length<=a.length:=by
   rw[Oz];dsimp only;by_cases f:(bQ 58 a).2.2=true
   ·rw[if_pos f,ah]at e
    omega
   rw[g (by simpa using f)];simp only[aO];omega
  have k2:=gv 5 (qH a).1;have k3:=gv 5 (qH a).2;rw[<-I,<-c];omega
theorem NT{aJ s:O}{a:qj}(h:kr aJ s=some a):a.user.length<=3*s.length/\a.pass.length<=3*s.length/\∃ n,n.length<=s.length/\fm n (eU aJ)=some a.host:=by
 rw[Ii]at h;cases c:JG s with
 |none=>rw[c]at h;cases h
 |some v =>
  obtain⟨s2,u,p⟩:=v;rw[c]at h;dsimp only at h;rw[JA]at h;have hl:=G4 c;have hu:=Wo c;cases d:Ng s2 with
  |none=>rw[d]at h;cases h
  |some v =>
   obtain⟨n,q⟩:=v;rw[d]at h;dsimp only at h;have hnl:=Gx d;unfold Ct at h;cases hh:fm n (eU aJ)with
   |none=>rw[hh]at h;cases h
   |some g =>
    rw[hh]at h;dsimp only at h;cases e:Uc aJ q with
    |none=>rw[e]at h;cases h
    |some v =>
     obtain⟨k,b⟩:=v;rw[e]at h;injection h with h
     subst h;exact⟨hu.1,hu.2,n,M0,hh⟩

def Pi(y:UInt8):Prop:=32<G y/\y≠35/\y≠63
def Rq(y:UInt8):Prop:=Pi y/\y≠47/\y≠92
instance (y:UInt8):Decidable (Pi y):=by unfold Pi;infer_instance
instance (y:UInt8):Decidable (Rq y):=by unfold Rq;infer_instance
theorem a06{a b:Url}(Y:a.aJ=b.aJ)(I:a.usr=b.usr)(h3:a.er=b.er)(h4:a.host=b.host)(h5:a.bz=b.bz)(h6:a.port=b.port)(h7:a.opq=b.opq)(h8:a.flat=b.flat)(h9:a.path=b.path)(h10:a.bZ=b.bZ)(h11:a.q=b.q)(h12:a.cg=b.cg)(h13:a.f=b.f):a=b:=by
 cases a;cases b;simp_all

theorem a3a(x:UInt8):G x=44 ↔ x=44:=by
 constructor
 ·intro h
  have:x.toNat=44:=by unfold G at h;omega
  exact eZ.mp this
 rintro rfl;rfl

def ny:O:=[239,191,189]
def dY(raw:O):O:=raw.flatMap λx=>if x=0 then ny else [x]
def jw(raw:O):O:=pl (kz (dY raw))
def ef(b:Url)(s:O)(ws:List O):eu:=match kF b s with
 |none=>⟨false,U0,ws⟩
 |some u=>⟨true,u,ws⟩
structure Rd where
 items:List eu
 delay:O
def mg(kind:Int)(b:Url)(s:O):Rd :=
 if kind=1 then⟨[ef b s []],[]⟩
 else if kind=2 then⟨(jF s).map λc=>ef b c.url c.words,[]⟩
 else if kind=3 then(match Dx s with
  |none=>⟨[],[]⟩
  |some r=>⟨[if r.has=true then ef b r.url []else⟨true,b,[]⟩],r.delay⟩)
 else⟨[],[]⟩
theorem uH:∀ {l:O},(∀x∈l,x≠0)->dY l=l
 | [],_=>rfl
 |x::r,h=>by
  show(if x=0 then ny else [x])++dY r=_;rw[if_neg (h x Oc),uH λy hy=>h y (by simp[hy])];rfl
theorem rD(a b:O):dY (a++b)=dY a++dY b:=dL
theorem xk:∀ l:O,(dY l).length<=3*l.length
 | []=>ag _
 |x::r=>by
  have ih:=xk r;show((if x=0 then ny else [x])++dY r).length<=_;rw[ae,ah]
  have:(if x=0 then ny else [x]).length<=3:=by
   split
   ·decide
   simp
  omega

def a1X(y:UInt8):Prop:=32<=G y/\G y<=126
instance (y:UInt8):Decidable (a1X y):=by unfold a1X;infer_instance

def wc(x:UInt8):Bool:=pG x||decide (x=43\/x=45\/x=46\/x=69\/x=101\/x=104\/x=119\/x=120)
theorem a3y:∀ k:Fin 256,¬fg (G (UInt8.ofNat k.val)) 10<0->pG (UInt8.ofNat k.val)=true:=by decide +kernel
theorem Ut{x:UInt8}(h:¬ fg (G x) 10<0):pG x=true:=ku (P:=λx=>¬ fg (G x) 10<0->pG x=true) a3y x h
theorem pg{s:O}{n:Int}(h:dc s=some n):∀ x∈s,pG x=true:=by
 unfold dc at h
 split at h
 ·cases h
 intro x X;refine Ut λhd=>?_;rw[Hj s 0 ⟨x,X,hd⟩]at h;cases h
theorem pY{x:UInt8}(h:pG x=true):wc x=true:=by unfold wc;rw[h];rfl
theorem It(c:UInt8):∀ (s:O),∀x∈s,x=c\/x∈(bQ c s).1\/x∈(bQ c s).2.1
 | [],x,h=>by cases h
 |y::r,x,h=>by
  have a:=It c r;unfold bQ;by_cases hy:y=c
  ·subst hy
   rcases aK.mp h with rfl|h
   ·exact .inl rfl
   simp;exact .inr h
  rcases aK.mp h with rfl|h
  ·simp[hy]
  rcases a x h with Y|Y|Y
  ·exact .inl Y
  ·right;left;simp[hy,Y]
  right;right;simp[hy,Y]
theorem IK{t:O}{m:Int}{p:Int×Int}(h:Cx t m=some p):∀ x∈t,wc x=true:=by
 unfold Cx at h
 split at h
 ·cases h
 split at h
 ·cases h
 next n a =>
 have hd:=pg a;intro x X;rcases It 46 t x X with rfl|Y|Y
 ·decide
 ·exact pY (hd x (b5u _ Y))
 exact pY (hd x (b3X _ Y))
theorem b8O{s:O}{n:Int}(h:qO s=some n):∀ x∈s,wc x=true:=by
 have hd:∀ (c:UInt8),s.head? = some c->wc c=true->(∀x∈s.drop 1,wc x=true)->∀ x∈s,wc x=true:=by
  intro c Y I a;cases s with
  |nil=>intro x X;cases X
  |cons y r =>
   obtain rfl:y=c:=by simpa using Y
   intro x X;rcases aK.mp X with rfl|X
   ·exact I
   exact a x X
 unfold qO at h
 split at h
 ·next Y =>
  split at h
  ·cases h
  rw[cY]at h;obtain⟨n',I,_⟩:=h;exact hd 45 Y P8 λx X=>pY (pg I x X)
 by_cases Y:s.head? = some 43
 ·rw[if_pos Y]at h
  split at h
  ·cases h
  exact hd 43 Y P8 λx X=>pY (pg h x X)
 rw[if_neg Y]at h
 split at h
 ·cases h
 exact λx X=>pY (pg h x X)
theorem IJ{t:O}{p:Int×Int}(h:sf t=some p):∀ x∈t,wc x=true:=by
 unfold sf at h
 split at h
 ·exact IK h
 next e u he =>
 split at h
 ·cases h
 next m hm =>
 have Y:=b8O hm;have I:=IK h;intro x X;rw[<-List.takeWhile_append_dropWhile (p:=nE) (l:=t),he]at X;rcases bO.mp X with X|X
 ·exact I x X
 rcases aK.mp X with rfl|X
 ·obtain⟨x',r',d,c⟩:=dw_head (p:=nE) (s:=t) (by rw[he];simp)
  rw[he]at d;cases d;unfold nE isE at c
  have:x=101\/x=69:=by
   by_cases a:x=101
   ·exact .inl a
   exact .inr (by simpa[a]using c)
  rcases this with rfl|rfl <;>decide
 exact Y x X
theorem UM{s:O}{f:Flo}(h:FJ s=some f):∀ x∈s,wc x=true:=by
 unfold FJ at h
 split at h
 ·next Y =>
  rw[cY]at h;obtain⟨p,I,_⟩:=h;have a:=IJ I;cases s with
  |nil=>intro x X;cases X
  |cons y r =>
   obtain rfl:y=45:=by simpa using Y
   intro x X;rcases aK.mp X with rfl|X
   ·decide
   exact a x X
 rw[cY]at h;obtain⟨p,I,_⟩:=h;exact IJ I
structure Y2 (w:O):Prop where
 n:w ≠ []
 c:∀ x∈w,wc x=true
theorem Wt{c i:dk}{w:O}(h:ni c w=some i):Y2 w:=by
 unfold ni at h
 split at h
 ·cases h
 next l d =>
 have a:w ≠ []:=by rintro rfl;cases d
 refine⟨a,?_⟩
 have hw:w=w.dropLast++[l]:=by
  have:=ip a;rw[TV a]at d;rw[bj d]at this;exact this.symm
 have fin:wc l=true->(∀x∈w.dropLast,wc x=true)->∀ x∈w,wc x=true:=by
  intro Y I x X;rw[hw]at X;rcases bO.mp X with X|X
  ·exact I x X
  obtain rfl:x=l:=by simpa using X
  exact Y
 split at h
 ·next e =>
  subst e
  split at h
  ·cases h
  next n g=>exact fin P8 λx X=>pY (pg g x X)
 split at h
 ·next e =>
  subst e
  split at h
  ·cases h
  next n g=>exact fin P8 λx X=>pY (pg g x X)
 split at h
 ·next e =>
  subst e
  split at h
  ·cases h
  next f j=>exact fin P8 (UM j)
 cases h
theorem DR:∀ {ws:List O} {c a:dk},lU c ws=some a->∀ w∈ws,Y2 w
 | [],_,_,_,w,h=>by cases h
 |x::l,c,a,h,w,hw=>by
  unfold lU at h
  split at h
  ·cases h
  next d hd =>
  rcases aK.mp hw with rfl|hw
  ·exact Wt hd
  exact DR h w hw
theorem Us{ws:List O}{c:dk}(h:jM ws=some c):(∀w∈ws,Y2 w)/\c.words=ws:=by
 unfold jM at h
 split at h
 ·cases h
 next d hd =>
 split at h
 ·cases h
 cases h;exact⟨DR hd,rfl⟩
theorem wO:∀ (k:Nat) (s:O),∀c∈gL k s,∃d,jM c.words=some d/\c={d with url:=c.url}
 |0,_,c,h=>by cases h
 |k+1,s,c,h=>by
  unfold gL at h
  split at h
  ·cases h
  unfold tU at h
  split at h
  ·exact wO k _ c h
  next d hd =>
  rcases aK.mp h with rfl|h
  ·refine⟨d,?_,rfl⟩
   show jM d.words=some d;rw[(Us hd).2];exact hd
  exact wO k _ c h

def fG(s:O):O:=s.map dK
def ii:List ((O×O)×Int):=[(([97],[104,114,101,102]),1),(([97,114,101,97],[104,114,101,102]),1),(([108,105,110,107],[104,114,101,102]),1),(([105,109,103],[115,114,99]),1),(([105,109,103],[108,111,110,103,100,101,115,99]),1),(([115,99,114,105,112,116],[115,114,99]),1),(([105,102,114,97,109,101],[115,114,99]),1),(([101,109,98,101,100],[115,114,99]),1),(([111,98,106,101,99,116],[100,97,116,97]),1),(([118,105,100,101,111],[115,114,99]),1),(([118,105,100,101,111],[112,111,115,116,101,114]),1),(([97,117,100,105,111],[115,114,99]),1),(([115,111,117,114,99,101],[115,114,99]),1),(([116,114,97,99,107],[115,114,99]),1),(([105,110,112,117,116],[115,114,99]),1),(([105,110,112,117,116],[102,111,114,109,97,99,116,105,111,110]),1),(([98,117,116,116,111,110],[102,111,114,109,97,99,116,105,111,110]),1),(([102,111,114,109],[97,99,116,105,111,110]),1),(([98,108,111,99,107,113,117,111,116,101],[99,105,116,101]),1),(([113],[99,105,116,101]),1),(([105,110,115],[99,105,116,101]),1),(([100,101,108],[99,105,116,101]),1),(([98,111,100,121],[98,97,99,107,103,114,111,117,110,100]),1),(([105,109,103],[115,114,99,115,101,116]),2),(([115,111,117,114,99,101],[115,114,99,115,101,116]),2),(([108,105,110,107],[105,109,97,103,101,115,114,99,115,101,116]),2),(([109,101,116,97],[99,111,110,116,101,110,116]),3)]
def jD:List ((O×O)×Int)->O×O->Int
 | [],_=>0
 |p::l,k=>if p.1=k then p.2 else jD l k
def gA(el name:O):Int:=jD ii (fG el,fG name)
def GX(x:UInt8):Bool:=decide (x=9\/x=10\/x=13\/x=32)
def fN(p:UInt8->Bool)(s:O):O:=(s.reverse.dropWhile p).reverse
def trimB(p:UInt8->Bool)(s:O):O:=fN p (s.dropWhile p)
def AZ(x:UInt8):Bool:=iQ (G x) || !(decide (fg (G x) 10<0))||decide (x∈([33,35,36,37,38,39,42,43,45,46,94,95,96,124,126]:O))
def DW(s:O):Bool:=s.all AZ && !s.isEmpty
def KR(s:O):Option O :=
 if(bQ 47 (trimB GX s)).2.2=true then
  (if DW (bQ 47 (trimB GX s)).1=true/\DW (fN GX (bQ 59 (bQ 47 (trimB GX s)).2.1).1)=true then some (fG (bQ 47 (trimB GX s)).1++[47]++fG (fN GX (bQ 59 (bQ 47 (trimB GX s)).2.1).1))else none)
 else none
def b64:O:=[98,97,115,101,54,52]
def qA(s:O):O :=
 if s.length<6\/fG (s.drop (s.length-6))≠b64 then s
 else if Lib.hasSuffix (fN (λx=>decide (x=32)) (s.take (s.length-6))) [59]=true then(fN (λx=>decide (x=32)) (s.take (s.length-6))).dropLast else s
def qI:O:=[100,97,116,97]
def mP:O:=[116,101,120,116,47,112,108,97,105,110]
def a5K(s:O):O:=(KR (if Lib.hasPrefix s [59]=true then mP++s else s)).getD mP
def b76(s p:O):O:=if Lib.hasPrefix s p=true then s.drop p.length else s
def BY(u:Url):Option O :=
 if u.aJ=qI then(if(bQ 44 (dA u false)).2.2=true then some (a5K (qA (trimB blE (b76 (bQ 44 (dA u false)).1 (qI++[58])))))else none)else none
