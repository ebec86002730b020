/- Joined texts. -/
import Derived.Test.YtpbnfjdkdfombaaGreatDoorGAthH
import Derived.Test.YtpbnfjdkdfombaaGreatDoorGNumT
import Derived.Carry
import Derived.MapKept
set_option maxHeartbeats 40000000
namespace Go.Proofs.YtpbnfjdkdfombaaGreatDoor
open Tryz
open Go.RowKit
set_option maxRecDepth 10000
theorem Ko(A':qj)(h8:A'.host.six.length=8):(bU A')[0]? = some (S A'.user)/\(bU A')[1]? = some (S A'.pass)/\(bU A')[13]? = some (.bool A'.bz)/\(bU A')[14]? = some (.int .i64 A'.port)/\(bU A')[2]? = some (.int .i64 A'.host.kind):=by
 obtain⟨u,p,⟨k,nm,f,six⟩,hp,po⟩:=A';simp only at h8;obtain⟨b1,G,b3,b4,b5,b6,b7,b8,rfl⟩:=eight h8;exact⟨rfl,rfl,rfl,rfl,rfl⟩
theorem Uf(a:qj):∀ j v,(aS a.host)[j]? = some v->(bU a)[2+j]? = some v:=by
 intro j v h;have hj:=(bh.1 h).1;rw[cf];unfold kq;rw[bB,dB Oc,cX (by simp;omega)]
 simpa using h

theorem Wo{l s u p:O}(h:JG l=some (s,u,p)):u.length<=3*l.length/\p.length<=3*l.length:=by
 unfold JG at h;cases ha:zL l with
 |none =>
  rw[ha]at h;injection h with h
  injection h with Y I
  injection I with I h3
  rw[<-I,<-h3];simp
 |some v =>
  obtain⟨who,rest⟩:=v;rw[ha]at h;dsimp only at h
  split at h
  ·cases h
  injection h with h
  injection h with Y I
  injection I with I h3
  have hw:who.length<=l.length:=by
   rw[(Xj ha).1];simp
  have hc:=congrArg List.length (mn 58 who);have hq:(bQ 58 who).2.2=false->(bQ 58 who).2.1=[]:=gm 58 _;rw[ae]at hc
  have k1:(qH who).1.length<=who.length/\(qH who).2.length<=who.length:=by
   rw[Oz];dsimp only;by_cases hf:(bQ 58 who).2.2=true
   ·rw[if_pos hf,ah]at hc
    omega
   rw[hq (by simpa using hf)];simp only[aO];omega
  have k2:=gv 5 (qH who).1;have k3:=gv 5 (qH who).2;rw[<-I,<-h3];omega
theorem NT{aJ s:O}{a:qj}(h:kr aJ s=some a):a.user.length<=3*s.length/\a.pass.length<=3*s.length/\∃ n,n.length<=s.length/\fm n (eU aJ)=some a.host:=by
 rw[Ii]at h;cases hs:JG s with
 |none=>rw[hs]at h;cases h
 |some v =>
  obtain⟨s2,u,p⟩:=v;rw[hs]at h;dsimp only at h;rw[JA]at h;have hl:=G4 hs;have hu:=Wo hs;cases hn:Ng s2 with
  |none=>rw[hn]at h;cases h
  |some v =>
   obtain⟨n,q⟩:=v;rw[hn]at h;dsimp only at h;have hnl:=Gx hn;unfold Ct at h;cases hh:fm n (eU aJ)with
   |none=>rw[hh]at h;cases h
   |some g =>
    rw[hh]at h;dsimp only at h;cases hq:Uc aJ q with
    |none=>rw[hq]at h;cases h
    |some v =>
     obtain⟨k,b⟩:=v;rw[hq]at h;injection h with h
     subst h;exact⟨hu.1,hu.2,n,M0,hh⟩

def Pi(y:UInt8):Prop:=32<G y/\y≠35/\y≠63
def Rq(y:UInt8):Prop:=Pi y/\y≠47/\y≠92
instance (y:UInt8):Decidable (Pi y):=by unfold Pi;infer_instance
instance (y:UInt8):Decidable (Rq y):=by unfold Rq;infer_instance
theorem a06{a b:Url}(Y:a.aJ=b.aJ)(I:a.usr=b.usr)(h3:a.er=b.er)(h4:a.host=b.host)(h5:a.bz=b.bz)(h6:a.port=b.port)(h7:a.opq=b.opq)(h8:a.flat=b.flat)(h9:a.path=b.path)(h10:a.bZ=b.bZ)(h11:a.q=b.q)(h12:a.cg=b.cg)(h13:a.f=b.f):a=b:=by
 cases a;cases b;simp_all

theorem a3a(x:UInt8):G x=44 ↔ x=44:=by
 constructor
 ·intro h
  have:x.toNat=44:=by unfold G at h;omega
  exact eZ.mp this
 rintro rfl;rfl

def ny:O:=[239,191,189]
def dY(raw:O):O:=raw.flatMap λx=>if x=0 then ny else [x]
def jw(raw:O):O:=pl (kz (dY raw))
def ef(b:Url)(s:O)(ws:List O):eu:=match kF b s with
 |none=>⟨false,U0,ws⟩
 |some u=>⟨true,u,ws⟩
structure Rd where
 items:List eu
 delay:O
def mg(kind:Int)(b:Url)(s:O):Rd :=
 if kind=1 then⟨[ef b s []],[]⟩
 else if kind=2 then⟨(jF s).map λc=>ef b c.url c.words,[]⟩
 else if kind=3 then(match Dx s with
  |none=>⟨[],[]⟩
  |some r=>⟨[if r.has=true then ef b r.url []else⟨true,b,[]⟩],r.delay⟩)
 else⟨[],[]⟩
theorem uH:∀ {l:O},(∀x∈l,x≠0)->dY l=l
 | [],_=>rfl
 |x::r,h=>by
  show(if x=0 then ny else [x])++dY r=_;rw[if_neg (h x Oc),uH λy hy=>h y (by simp[hy])];rfl
theorem rD(a b:O):dY (a++b)=dY a++dY b:=dL
theorem xk:∀ l:O,(dY l).length<=3*l.length
 | []=>ag _
 |x::r=>by
  have ih:=xk r;show((if x=0 then ny else [x])++dY r).length<=_;rw[ae,ah]
  have:(if x=0 then ny else [x]).length<=3:=by
   split
   ·decide
   simp
  omega

def a1X(y:UInt8):Prop:=32<=G y/\G y<=126
instance (y:UInt8):Decidable (a1X y):=by unfold a1X;infer_instance

def wc(x:UInt8):Bool:=pG x||decide (x=43\/x=45\/x=46\/x=69\/x=101\/x=104\/x=119\/x=120)
theorem a3y:∀ k:Fin 256,¬fg (G (UInt8.ofNat k.val)) 10<0->pG (UInt8.ofNat k.val)=true:=by decide +kernel
theorem Ut{x:UInt8}(h:¬ fg (G x) 10<0):pG x=true:=ku (P:=λx=>¬ fg (G x) 10<0->pG x=true) a3y x h
theorem pg{s:O}{n:Int}(h:dc s=some n):∀ x∈s,pG x=true:=by
 unfold dc at h
 split at h
 ·cases h
 intro x X;refine Ut λhd=>?_;rw[Hj s 0 ⟨x,X,hd⟩]at h;cases h
theorem pY{x:UInt8}(h:pG x=true):wc x=true:=by unfold wc;rw[h];rfl
theorem It(c:UInt8):∀ (s:O),∀x∈s,x=c\/x∈(bQ c s).1\/x∈(bQ c s).2.1
 | [],x,h=>by cases h
 |y::r,x,h=>by
  have ih:=It c r;unfold bQ;by_cases hy:y=c
  ·subst hy
   rcases aK.mp h with rfl|h
   ·exact .inl rfl
   simp;exact .inr h
  rcases aK.mp h with rfl|h
  ·simp[hy]
  rcases ih x h with Y|Y|Y
  ·exact .inl Y
  ·right;left;simp[hy,Y]
  right;right;simp[hy,Y]
theorem IK{t:O}{m:Int}{p:Int×Int}(h:Cx t m=some p):∀ x∈t,wc x=true:=by
 unfold Cx at h
 split at h
 ·cases h
 split at h
 ·cases h
 next n hn =>
 have hd:=pg hn;intro x X;rcases It 46 t x X with rfl|Y|Y
 ·decide
 ·exact pY (hd x (b5u _ Y))
 exact pY (hd x (b3X _ Y))
theorem UB{s:O}{n:Int}(h:qO s=some n):∀ x∈s,wc x=true:=by
 have hd:∀ (c:UInt8),s.head? = some c->wc c=true->(∀x∈s.drop 1,wc x=true)->∀ x∈s,wc x=true:=by
  intro c Y I h3;cases s with
  |nil=>intro x X;cases X
  |cons y r =>
   obtain rfl:y=c:=by simpa using Y
   intro x X;rcases aK.mp X with rfl|X
   ·exact I
   exact h3 x X
 unfold qO at h
 split at h
 ·next Y =>
  split at h
  ·cases h
  rw[cY]at h;obtain⟨n',I,_⟩:=h;exact hd 45 Y P8 λx X=>pY (pg I x X)
 by_cases Y:s.head? = some 43
 ·rw[if_pos Y]at h
  split at h
  ·cases h
  exact hd 43 Y P8 λx X=>pY (pg h x X)
 rw[if_neg Y]at h
 split at h
 ·cases h
 exact λx X=>pY (pg h x X)
theorem IJ{t:O}{p:Int×Int}(h:sf t=some p):∀ x∈t,wc x=true:=by
 unfold sf at h
 split at h
 ·exact IK h
 next e u he =>
 split at h
 ·cases h
 next m hm =>
 have Y:=UB hm;have I:=IK h;intro x X;rw[<-List.takeWhile_append_dropWhile (p:=nE) (l:=t),he]at X;rcases bO.mp X with X|X
 ·exact I x X
 rcases aK.mp X with rfl|X
 ·obtain⟨x',r',e',hx'⟩:=dw_head (p:=nE) (s:=t) (by rw[he];simp)
  rw[he]at e';cases e';unfold nE isE at hx'
  have:x=101\/x=69:=by
   by_cases a3G:x=101
   ·exact .inl a3G
   exact .inr (by simpa[a3G]using hx')
  rcases this with rfl|rfl <;>decide
 exact Y x X
theorem UM{s:O}{f:Flo}(h:FJ s=some f):∀ x∈s,wc x=true:=by
 unfold FJ at h
 split at h
 ·next Y =>
  rw[cY]at h;obtain⟨p,I,_⟩:=h;have h3:=IJ I;cases s with
  |nil=>intro x X;cases X
  |cons y r =>
   obtain rfl:y=45:=by simpa using Y
   intro x X;rcases aK.mp X with rfl|X
   ·decide
   exact h3 x X
 rw[cY]at h;obtain⟨p,I,_⟩:=h;exact IJ I
structure Y2 (w:O):Prop where
 n:w ≠ []
 c:∀ x∈w,wc x=true
theorem Wt{c c':dk}{w:O}(h:ni c w=some c'):Y2 w:=by
 unfold ni at h
 split at h
 ·cases h
 next l hl =>
 have hne:w ≠ []:=by rintro rfl;cases hl
 refine⟨hne,?_⟩
 have hw:w=w.dropLast++[l]:=by
  have:=ip hne;rw[TV hne]at hl;rw[bj hl]at this;exact this.symm
 have fin:wc l=true->(∀x∈w.dropLast,wc x=true)->∀ x∈w,wc x=true:=by
  intro Y I x X;rw[hw]at X;rcases bO.mp X with X|X
  ·exact I x X
  obtain rfl:x=l:=by simpa using X
  exact Y
 split at h
 ·next e =>
  subst e
  split at h
  ·cases h
  next n hn=>exact fin P8 λx X=>pY (pg hn x X)
 split at h
 ·next e =>
  subst e
  split at h
  ·cases h
  next n hn=>exact fin P8 λx X=>pY (pg hn x X)
 split at h
 ·next e =>
  subst e
  split at h
  ·cases h
  next f hf=>exact fin P8 (UM hf)
 cases h
theorem DR:∀ {ws:List O} {c c':dk},lU c ws=some c'->∀ w∈ws,Y2 w
 | [],_,_,_,w,h=>by cases h
 |x::l,c,c',h,w,hw=>by
  unfold lU at h
  split at h
  ·cases h
  next d hd =>
  rcases aK.mp hw with rfl|hw
  ·exact Wt hd
  exact DR h w hw
theorem Us{ws:List O}{c:dk}(h:jM ws=some c):(∀w∈ws,Y2 w)/\c.words=ws:=by
 unfold jM at h
 split at h
 ·cases h
 next d hd =>
 split at h
 ·cases h
 cases h;exact⟨DR hd,rfl⟩
theorem wO:∀ (k:Nat) (s:O),∀c∈gL k s,∃d,jM c.words=some d/\c={d with url:=c.url}
 |0,_,c,h=>by cases h
 |k+1,s,c,h=>by
  unfold gL at h
  split at h
  ·cases h
  unfold tU at h
  split at h
  ·exact wO k _ c h
  next d hd =>
  rcases aK.mp h with rfl|h
  ·refine⟨d,?_,rfl⟩
   show jM d.words=some d;rw[(Us hd).2];exact hd
  exact wO k _ c h

def fG(s:O):O:=s.map dK
def ii:List ((O×O)×Int):=[(([97],[104,114,101,102]),1),(([97,114,101,97],[104,114,101,102]),1),(([108,105,110,107],[104,114,101,102]),1),(([105,109,103],[115,114,99]),1),(([105,109,103],[108,111,110,103,100,101,115,99]),1),(([115,99,114,105,112,116],[115,114,99]),1),(([105,102,114,97,109,101],[115,114,99]),1),(([101,109,98,101,100],[115,114,99]),1),(([111,98,106,101,99,116],[100,97,116,97]),1),(([118,105,100,101,111],[115,114,99]),1),(([118,105,100,101,111],[112,111,115,116,101,114]),1),(([97,117,100,105,111],[115,114,99]),1),(([115,111,117,114,99,101],[115,114,99]),1),(([116,114,97,99,107],[115,114,99]),1),(([105,110,112,117,116],[115,114,99]),1),(([105,110,112,117,116],[102,111,114,109,97,99,116,105,111,110]),1),(([98,117,116,116,111,110],[102,111,114,109,97,99,116,105,111,110]),1),(([102,111,114,109],[97,99,116,105,111,110]),1),(([98,108,111,99,107,113,117,111,116,101],[99,105,116,101]),1),(([113],[99,105,116,101]),1),(([105,110,115],[99,105,116,101]),1),(([100,101,108],[99,105,116,101]),1),(([98,111,100,121],[98,97,99,107,103,114,111,117,110,100]),1),(([105,109,103],[115,114,99,115,101,116]),2),(([115,111,117,114,99,101],[115,114,99,115,101,116]),2),(([108,105,110,107],[105,109,97,103,101,115,114,99,115,101,116]),2),(([109,101,116,97],[99,111,110,116,101,110,116]),3)]
def jD:List ((O×O)×Int)->O×O->Int
 | [],_=>0
 |p::l,k=>if p.1=k then p.2 else jD l k
def gA(el name:O):Int:=jD ii (fG el,fG name)
def GX(x:UInt8):Bool:=decide (x=9\/x=10\/x=13\/x=32)
def fN(p:UInt8->Bool)(s:O):O:=(s.reverse.dropWhile p).reverse
def trimB(p:UInt8->Bool)(s:O):O:=fN p (s.dropWhile p)
def AZ(x:UInt8):Bool:=iQ (G x) || !(decide (fg (G x) 10<0))||decide (x∈([33,35,36,37,38,39,42,43,45,46,94,95,96,124,126]:O))
def DW(s:O):Bool:=s.all AZ && !s.isEmpty
def KR(s:O):Option O :=
 if(bQ 47 (trimB GX s)).2.2=true then
  (if DW (bQ 47 (trimB GX s)).1=true/\DW (fN GX (bQ 59 (bQ 47 (trimB GX s)).2.1).1)=true then some (fG (bQ 47 (trimB GX s)).1++[47]++fG (fN GX (bQ 59 (bQ 47 (trimB GX s)).2.1).1))else none)
 else none
def b64:O:=[98,97,115,101,54,52]
def qA(s:O):O :=
 if s.length<6\/fG (s.drop (s.length-6))≠b64 then s
 else if Lib.hasSuffix (fN (λx=>decide (x=32)) (s.take (s.length-6))) [59]=true then(fN (λx=>decide (x=32)) (s.take (s.length-6))).dropLast else s
def qI:O:=[100,97,116,97]
def mP:O:=[116,101,120,116,47,112,108,97,105,110]
def a5K(s:O):O:=(KR (if Lib.hasPrefix s [59]=true then mP++s else s)).getD mP
def OA(s p:O):O:=if Lib.hasPrefix s p=true then s.drop p.length else s
def BY(u:Url):Option O :=
 if u.aJ=qI then(if(bQ 44 (dA u false)).2.2=true then some (a5K (qA (trimB f8 (OA (bQ 44 (dA u false)).1 (qI++[58])))))else none)else none
end Go.Proofs.YtpbnfjdkdfombaaGreatDoor
set_option maxHeartbeats 40000000
namespace Go.Proofs.YtpbnfjdkdfombaaGreatDoor
open Tryz
open Go.RowKit
set_option maxRecDepth 10000
theorem y7{l:Array Bool}{i:Nat}(h:l.getD i true=false):(l.setIfInBounds i true).toList.count false+1=l.toList.count false:=by
 have hi:i<l.size:=by
  rcases cI i l.size with I|I
  ·exact I
  simp[Array.getElem?_eq_none I]at h
 have hv:l[i]=false:=by simpa[hi]using h
 rw[a1f];have hi2:i<l.toList.length:=by simpa using hi
 have hv2:l.toList[i]=false:=by simpa using hv
 have hpos:0<l.toList.count false:=List.count_pos_iff.mpr (hv2▸be hi2);rw[List.count_set hi2,hv2];show l.toList.count false-1+0+1=l.toList.count false;omega
theorem zu{P:Program}{ops:Array Oper}{Q:Exit->Act->H->Prop}{md:Region.Mode}(I':Array Bool->Act->H->Prop)
  (hstep:∀ l a w i,I' l a w->i∈Region.ready md ops l->wpOp P ops Q i (I' (l.setIfInBounds i true)) a w)
  (hend:∀ l a w,I' l a w->Region.ready md ops l=[]->Q .normal a w) :
  ∀(fuel:Nat) (l:Array Bool) (a:Act) (w:H),l.toList.count false<=fuel->I' l a w->wpAny P md ops Q fuel l a w
 |0,l,a,w,hc,h=>by
  have hr:Region.ready md ops l=[]:=by
   cases hr:Region.ready md ops l with
   |nil=>rfl
   |cons i rs =>
    have hi:i∈Region.ready md ops l:=by rw[hr];exact fA
    have:=y7 (mem_ready.1 hi).1;omega
  exact⟨hr,hend l a w h hr⟩
 |fuel+1,l,a,w,hc,h=>⟨λhr=>hend l a w h hr,λi hi=>wpOp_mono (λa' w' h'=>zu I' hstep hend fuel _ a' w' (by have:=y7 (mem_ready.1 hi).1;omega) h') (hstep l a w i h hi)⟩
abbrev kV(p:O×O):Z:=.agg #[S p.1,S p.2]
theorem Vs(p q:O×O)(w:H):(Op.equal 70 (kV p) (kV q)).run prog w=.ok (decide (p=q)) w:=by
 obtain⟨a,b⟩:=p;obtain⟨c,d⟩:=q;have hS:prog.underlying 70=some (.struct (prog.fieldsOf 70)):=Rz;have hp:prog.stoodInHeld 70=false:=Rz;have Y:=rI a c;have I:=rI b d;show(Op.equalIn 10000 70 (.agg #[.string (E a),.string (E b)]) (.agg #[.string (E c),.string (E d)])).run prog w=_;rw[show(10000:Nat)=9999+1 from rfl,run_equalIn_agg w 9999 70 _ _ hS hp];obtain⟨A',hA⟩:=V (E a);obtain⟨B,hB⟩:=V (E b);obtain⟨C,hC⟩:=V (E c);obtain⟨D,hD⟩:=V (E d);rw[<-hA,<-hC]at Y;rw[<-hB,<-hD]at I;rw[<-hA,<-hB,<-hC,<-hD];simp only[Program.fieldsOf,underlying70]
 have hq:decide ((a,b)=(c,d))=(decide (a=c)&&decide (b=d)):=by
  rw[bX];simp
 rw[hq];clear hq hA hB hC hD hS hp;generalize decide (a=c)=q1 at Y ⊢;generalize decide (b=d)=q2 at I ⊢
 go_simp
 repeat' split
 all_goals simp_all
theorem sx(em:Bool)(p:O×O)(w:H):(Instr.checkKey em 10000 70 (kV p)).run prog w=.ok () w:=by
 have hu:=underlying9;show(Instr.checkKey em (9999+1) 70 (kV p)).run prog w=.ok () w;unfold Instr.checkKey;simp only[run_underlying underlying70,Sem.run_bind,Result.andThen_ok]
 have I:∀ v,(Instr.checkKey em (9998+1) 9 v).run prog w=.ok () w:=λv=>by
  unfold Instr.checkKey;simp[run_underlying hu]
 have h3:∀ v,(Instr.checkKey em 9999 9 v).run prog w=.ok () w:=I;have h4:∀ x y,(part 9 #[x,y] 0).run prog w=.ok x w:=λx y=>Rz;have h5:∀ x y,(part 9 #[x,y] 1).run prog w=.ok y w:=λx y=>Rz;simp[h3,h4,h5]
abbrev yp(D:List ((O×O)×Int)):List (Z×Z):=D.map λp=>(kV p.1,Value.int .i64 p.2)
def MapAt(w:H)(b:Nat)(D:List ((O×O)×Int)):Prop:=∃ es n,w.heap[b]? = some (.map es n)/\es.toList.map (λe=>(e.key,e.val))=yp D
def ja:List ((O×O)×Int)->O×O->Option Int
 | [],_=>none
 |p::l,k=>if p.1=k then some p.2 else ja l k
theorem vt(l:List ((O×O)×Int))(k:O×O):(ja l k).getD 0=jD l k:=by
 induction l with
 |nil=>rfl
 |cons p l ih =>
  unfold ja jD
  split
  ·rfl
  exact ih
theorem Dg(k:O×O)(w:H):∀ (D:List ((O×O)×Int)) (es:List MapEntry) (i:Nat),es.map (λe=>(e.key,e.val))=yp D ->
  ∃r,(Instr.findAsking 70 (kV k) es i).run prog w=.ok r w/\r.map (·.2)=(ja D k).map (Value.int .i64)
 | [],[],i,_=>⟨none,rfl,rfl⟩
 | [],_::_,i,h=>by cases h
 |_::_,[],i,h=>by cases h
 |p::D,e::es,i,h=>by
  rw[dh,yp,dh]at h;injection h with Y I
  injection Y with h3 h4
  obtain⟨r,hr,hv⟩:=Dg k w D es (i+1) I;unfold Instr.findAsking ja;rw[Sem.run_bind,h3,Vs,Result.andThen_ok];by_cases hk:p.1=k
  ·rw[if_pos hk,decide_eq_true hk.symm,if_pos rfl]
   exact⟨_,rfl,by simp[h4]⟩
  rw[if_neg hk,decide_eq_false (λh=>hk h.symm),if_neg Oc];exact⟨r,hr,hv⟩
theorem Cu(k:O×O)(w:H)(D:List ((O×O)×Int))(es:List MapEntry)(h:es.map (λe=>(e.key,e.val))=yp D) :
  ∃r,(Instr.findKey 70 (kV k) es).run prog w=.ok r w/\r.map (·.2)=(ja D k).map (Value.int .i64):=by
 unfold Instr.findKey;rw[Sem.run_bind,run_underlying underlying70,Result.andThen_ok];cases es with
 |nil =>
  cases D with
  |nil=>exact⟨none,rfl,rfl⟩
  |cons p D=>cases h
 |cons e es =>
  have hn:Instr.sameNow (.struct (prog.fieldsOf 70)) (kV k) e.key=none:=rfl;obtain⟨r,hr,hv⟩:=Dg k w D (e::es) 0 h;exact⟨r,hr,hv⟩
theorem VB{w:H}{b:Nat}{D:List ((O×O)×Int)}(h:MapAt w b D)(k:O×O) :
  (Instr.lookup 66 (.map (some b)) (kV k) false).run prog w=.ok (.int .i64 (jD D k)) w:=by
 obtain⟨es,n,U,he⟩:=h;obtain⟨r,hr,hv⟩:=Cu k w D es.toList he;have hz:(zeroValue 3).run prog w=.ok (.int .i64 0) w:=Rz;rw[<-vt];cases hf:ja D k with
 |none =>
  rw[hf]at hv
  have hn:r=none:=by cases r with
   |none=>rfl
   |some x=>cases hv
  subst hn;simp[Instr.lookup,run_underlying underlying66,MapKept.run_getObj_map U,sx,hr,hz,Result.andThen]
 |some v =>
  rw[hf]at hv
  obtain⟨x,rfl,X⟩:∃ x,r=some x/\x.2=.int .i64 v:=by
   cases r with
   |none=>cases hv
   |some x=>exact⟨x,rfl,bj hv⟩
  simp[Instr.lookup,run_underlying underlying66,MapKept.run_getObj_map U,sx,hr,Result.andThen,X]
theorem MapAt.below{w w':H}{b:Nat}{D:List ((O×O)×Int)}(h:MapAt w b D)(U:r7 w w'):MapAt w' b D:=by
 obtain⟨es,n,Y,I⟩:=h;exact⟨es,n,(U.block b (bw.1 Y).1).trans Y,I⟩
theorem VD{w:H}{b:Nat}{D:List ((O×O)×Int)}(h:MapAt w b D)(p:(O×O)×Int)(hn:ja D p.1=none) :
  ∃w',(Instr.mapUpdate 66 (.map (some b)) (kV p.1) (.int .i64 p.2)).run prog w=.ok () w'/\MapAt w' b (D++[p])/\∀ B,B<=b->Below B w w':=by
 obtain⟨es,n,U,he⟩:=h;obtain⟨r,hr,hv⟩:=Cu p.1 w D es.toList he;rw[hn]at hv
 have hr0:r=none:=by cases r with
  |none=>rfl
  |some x=>cases hv
 subst hr0;have hlt:b<w.heap.size:=(bw.1 U).1;refine⟨{w with heap:=w.heap.setIfInBounds b (.map (es.push {key:=kV p.1,val:=.int .i64 p.2,born:=n}) (n+1))},?_,⟨es.push {key:=kV p.1,val:=.int .i64 p.2,born:=n},n+1,?_,?_⟩,λB hB=>⟨rfl,rfl,rfl,Oc,λk hk=>?_⟩⟩
 ·simp[Instr.mapUpdate,run_underlying underlying66,MapKept.run_getObj_map U,sx,hr,MapKept.run_setObj_map _ U,Result.andThen]
 ·simp[hlt]
 ·rw[Array.toList_push,eY,he,yp,yp,eY]
  rfl
 show(w.heap.setIfInBounds b _)[k]? = _;rw[Nj M0]
theorem se{D:List ((O×O)×Int)}{k:O×O}(h:k∉D.map (·.1)):ja D k=none:=by
 induction D with
 |nil=>rfl
 |cons p D ih =>
  rw[dh,aK,not_or]at h;unfold ja;rw[if_neg (λe=>h.1 e.symm),ih h.2]
theorem vu{D:List ((O×O)×Int)}(hn:(D.map (·.1)).Nodup){p:(O×O)×Int}(h:p∈D):ja D p.1=some p.2:=by
 induction D with
 |nil=>cases h
 |cons q D ih =>
  rw[dh,List.nodup_cons]at hn;unfold ja;rcases aK.mp h with rfl|h
  ·rw[if_pos rfl]
  rw[if_neg (λe=>hn.1 (by rw[e];exact dt.mpr ⟨p,h,rfl⟩)),ih hn.2 h]
theorem UT{D E':List ((O×O)×Int)}(hp:D.Perm E')(hn:(E'.map (·.1)).Nodup)(k:O×O):jD D k=jD E' k:=by
 have hnD:(D.map (·.1)).Nodup:=(hp.map _).nodup_iff.mpr hn;rw[<-vt,<-vt];by_cases h:k∈E'.map (·.1)
 ·obtain⟨p,hpm,rfl⟩:=dt.mp h
  rw[vu hn hpm,vu hnD (hp.mem_iff.mpr hpm)]
 rw[se h,se (λI=>h ((hp.map _).mem_iff.mp I))]

structure YV (ops:Array Oper):Prop where
 sz:ops.size=57
 mk0:∃ o,ops[0]? = some o/\o.op=.makeMap 66 none/\o.dst=some 1/\o.guard=none
 bl:∀ k (hk:k<27),∃o,ops[2*k+1]? = some o/\o.op=.build 70 #[(0,.const (S (ii[k]'hk).1.1)),(1,.const (S (ii[k]'hk).1.2))]/\o.dst=some (k+2)/\o.guard=none
 ins:∀ k (hk:k<27),∃o,ops[2*k+2]? = some o/\o.op=.insert 66 (.tmp 1) (.tmp (k+2)) (.const (.int .i64 (ii[k]'hk).2))/\o.dst=none/\o.guard=none
 mv:∃ o,ops[55]? = some o/\o.op=.move (.tmp 1)/\o.dst=some 29/\o.guard=none
 asg:∃ o,ops[56]? = some o/\o.op=.assign (.tmp 29)/\o.dst=some 0/\o.guard=none
 dep:((List.range 57).all λi=>((ops[i]?).map λo=>o.after.all λe=>decide (e.on<i)).getD false)=true
 d1:((List.range 27).all λk=>((ops[2*k+2]?).map λo=>o.after.any λe=>Region.binds .any e&&e.on==0).getD false)=true
 d2:((List.range 27).all λk=>((ops[2*k+2]?).map λo=>o.after.any λe=>Region.binds .any e&&e.on==2*k+1).getD false)=true
 d3:((ops[55]?).map λo=>o.after.any λe=>Region.binds .any e&&e.on==0).getD false=true
 d4:((ops[56]?).map λo=>o.after.any λe=>Region.binds .any e&&e.on==55).getD false=true
theorem mA{ops:Array Oper}{l:Array Bool}{i j:Nat}(hi:i∈Region.ready .any ops l)(h:((ops[i]?).map λo=>o.after.any λe=>Region.binds .any e&&e.on==j).getD false=true):l.getD j false=true:=by
 obtain⟨_,o,ho,hall⟩:=mem_ready.1 hi;rw[ho]at h;obtain⟨e,he,U⟩:=Array.any_eq_true'.1 (show(o.after.any λe=>Region.binds .any e&&e.on==j)=true from h);rw[ct,beq_iff_eq]at U;rw[<-U.2];exact hall e he U.1
theorem rR{n:Nat}{p:Nat->Bool}(h:(List.range n).all p=true){i:Nat}(hi:i<n):p i=true:=ch.mp h i (List.mem_range.mpr hi)
theorem EP{ops:Array Oper}(K:YV ops){l:Array Bool}(hl:l.size=57)(h:Region.ready .any ops l=[]):∀ i,i<57->l.getD i false=true:=by
 intro i
 induction i using Nat.strongRecOn with
 |ind i ih =>
  intro hi;by_cases hc:l.getD i false=true
  ·exact hc
  exfalso;have hd:=rR K.dep hi;have ho:∃ o,ops[i]? = some o:=⟨ops[i]'(by rw[K.sz];exact hi),cK _⟩;obtain⟨o,ho⟩:=ho;rw[ho]at hd;have hd2:o.after.all (λe=>decide (e.on<i))=true:=hd
  have hm:i∈Region.ready .any ops l:=by
   refine mem_ready.2 ⟨?_,o,ho,λe he U=>?_⟩
   ·have e1:l.getD i true=l[i]' M0:=by simp[hl,hi]
    have e2:l.getD i false=l[i]' M0:=by simp[hl,hi]
    rw[e1,<-e2]
    simpa using hc
   have:=Array.all_eq_true_iff_forall_mem.1 hd2 e he;rw[decide_eq_true_eq]at this;exact ih e.on this M0
  rw[h]at hm;cases hm
abbrev kL(k:Nat):(O×O)×Int:=ii.getD k default
theorem XT{k:Nat}(hk:k<27):kL k=ii[k]'hk:=by
 show ii.getD k default=_;rw[jj,aG (show k<ii.length from hk)];rfl
theorem Vr:(ii.map (·.1)).Nodup:=P8
theorem QD:(List.range 27).map kL=ii:=P8
theorem a0m{D:List Nat}{k:Nat}(hD:∀ j∈D,j<27)(hk:k<27)(hn:k∉D):ja (D.map kL) (kL k).1=none:=by
 refine se λh=>?_;rw[lu]at h;obtain⟨j,hj,e⟩:=dt.mp h;have I:∀ (i j:Fin 27),(kL i.val).1=(kL j.val).1->i=j:=P8;have:=I ⟨j,hD j hj⟩ ⟨k,hk⟩ e;exact hn ((Fin.mk.inj_iff.mp this)▸hj)
structure TU (w0:H) (l:Array Bool) (a:Act) (w:H):Prop where
 n:l.size=57
 t:a.tmps.size=30
 df:a.defers=[]
 ks:∀ k,k<27->l.getD (2*k+1) false=true->a.tmps[k+2]? = some (kV (kL k).1)
 st:(l.getD 0 false=false/\w=w0/\(∀k,k<27->l.getD (2*k+2) false=false)/\l.getD 55 false=false/\l.getD 56 false=false) \/
  (l.getD 0 false=true/\∃ b D,a.tmps[1]? = some (.map (some b))/\w0.heap.size<=b/\MapAt w b (List.map kL D)/\r7 w0 w/\List.Nodup D/\(∀k,k∈D ↔ k<27/\l.getD (2*k+2) false=true) /\
   (l.getD 55 false=true->a.tmps[29]? = some (.map (some b)))/\(l.getD 56 false=true->a.tmps[0]? = some (.map (some b))))
theorem eO{l:Array Bool}{i j:Nat}(h:i≠j):(l.setIfInBounds i true).getD j false=l.getD j false:=getD_set_ne false h
theorem Ps{l:Array Bool}{i:Nat}(h:i<l.size):(l.setIfInBounds i true).getD i false=true:=by simp[h]
theorem Ui(x y:O)(w:H):(Instr.build 70 #[(0,S x),(1,S y)]).run prog w=.ok (.agg #[S x,S y]) w:=Rz
theorem rC{ops:Array Oper}{Q:Exit->Act->H->Prop}{K:Act->H->Prop}{i:Nat}{o:Oper}{a:Act}{w w':H}{v:Z}(ho:ops[i]? = some o)(hg:o.guard=none)(hr:(execOp a.eval o).run prog w=.ok (.value v) w')(h:K (a.put o.dst v) w'):wpOp prog ops Q i K a w:=by
 unfold wpOp;rw[ho];show if _ then _ else _;have hw:Region.wanted o (yielded ops a.tmps)=true:=by unfold Region.wanted;rw[hg]
 rw[if_pos hw];refine .inl ?_;unfold Oper.wp;rw[hr];exact h
theorem AF(a:Act)(d:Option Tmp)(v:Z):(a.put d v).tmps.size=a.tmps.size:=by
 cases d with
 |none=>rfl
 |some d=>simp[Act.put]
theorem AE(a:Act)(d:Option Tmp)(v:Z):(a.put d v).defers=a.defers:=by cases d <;>rfl
theorem mR{a:Act}{d j:Nat}{v:Z}(h:d≠j):(a.put (some d) v).tmps[j]? = a.tmps[j]?:=by
 show(a.tmps.setIfInBounds d v)[j]? = _;exact Nj h
theorem put_eq{a:Act}{d:Nat}{v:Z}(h:d<a.tmps.size):(a.put (some d) v).tmps[d]? = some v:=by
 show(a.tmps.setIfInBounds d v)[d]? = _;simp[h]
theorem qN{a:Act}{t:Nat}{v:Z}(h:a.tmps[t]? = some v):a.eval (.tmp t)=v:=by
 show a.tmps.getD t undef=v;rw[Yh,h];rfl
theorem VC(w:H):MapAt (w.alloc (.map #[] 0)) w.heap.size []:=⟨#[],0,heap_alloc_new w _,rfl⟩
theorem MQ{ops:Array Oper}{Q:Exit->Act->H->Prop}{K:Act->H->Prop}{i:Nat}{o:Oper}{a:Act}{w w':H}(ho:ops[i]? = some o)(hg:o.guard=none)(hr:(execOp a.eval o).run prog w=.ok .skip w')(h:K (a.put o.dst undef) w'):wpOp prog ops Q i K a w:=by
 unfold wpOp;rw[ho];show if _ then _ else _;have hw:Region.wanted o (yielded ops a.tmps)=true:=by unfold Region.wanted;rw[hg]
 rw[if_pos hw];refine .inl ?_;unfold Oper.wp;rw[hr];exact h
theorem uz{w0:H}{l:Array Bool}{a:Act}{w:H}(h:TU w0 l a w){i:Nat}(hi:∀ k,k<27->i≠2*k+1){d:Option Tmp}{v:Z}(hd:∀ k:Nat,k<27->d≠some (k+2)):∀ k,k<27->(l.setIfInBounds i true).getD (2*k+1) false=true->(a.put d v).tmps[k+2]? = some (kV (kL k).1):=by
 intro k hk hl;rw[eO (hi k hk)]at hl;cases d with
 |none=>exact h.ks k hk hl
 |some d=>rw[mR (λe=>hd k hk (by rw[e]))];exact h.ks k hk hl
theorem b0g:∀ k:Nat,k<27->(some 29:Option Tmp)≠some (k+2):=λk hk e=>by
 have I:(29:Nat)=k+2:=bj e;omega
theorem ne0:∀ k:Nat,k<27->(some 0:Option Tmp)≠some (k+2):=λk hk e=>by
 have I:(0:Nat)=k+2:=bj e;omega
theorem Gl{ops:Array Oper}(K:YV ops)(Q:Exit->Act->H->Prop)(w0:H)(l:Array Bool)(a:Act)(w:H)(i:Nat)(h:TU w0 l a w)(hi:i∈Region.ready .any ops l):wpOp prog ops Q i (TU w0 (l.setIfInBounds i true)) a w:=by
 obtain⟨hun,o',ho',_⟩:=mem_ready.1 hi
 have a9x:i<57:=by
  have:=(bw.1 ho').1;rw[K.sz]at this;exact this
 have hin:i<l.size:=by rw[h.n];exact a9x
 have Vl:l.getD i false=false:=by
  have e1:l.getD i true=l[i]:=by simp[hin]
  have e2:l.getD i false=l[i]:=by simp[hin]
  rw[e2,<-e1];exact hun
 have hsz:(l.setIfInBounds i true).size=57:=by rw[Array.size_setIfInBounds];exact h.n
 rcases(show i=0\/(∃k,k<27/\i=2*k+1)\/(∃k,k<27/\i=2*k+2)\/i=55\/i=56 by
  by_cases h0:i=0
  ·exact .inl h0
  by_cases h55:55<=i
  ·exact .inr (.inr (.inr M0))
  by_cases hp:i%2=1
  ·exact .inr (.inl ⟨i/2,M0,M0⟩)
  exact .inr (.inr (.inl ⟨i/2-1,M0,M0⟩)))with rfl|⟨k,hk,rfl⟩|⟨k,hk,rfl⟩|rfl|rfl
 ·obtain⟨o,ho,hop,hd,hg⟩:=K.mk0
  rcases h.st with⟨_,hw,hno,h55,h56⟩|⟨Y,_⟩
  ·subst hw
   have hr:(execOp a.eval o).run prog w=.ok (.value (.map (some w.heap.size))) (w.alloc (.map #[] 0)):=by
    unfold execOp;simp only[hop,b4Z,Sem.run_bind,run_makeMap,Result.andThen_ok,Sem.run_pure]
   refine rC ho hg hr ?_;rw[hd];refine⟨hsz,by rw[AF];exact h.t,by rw[AE];exact h.df,uz h (λk _=>M0) (λk _ e=>by have I:(1:Nat)=k+2:=bj e;omega),.inr ⟨Ps hin,w.heap.size,[],put_eq (d:=1) (by rw[h.t];decide),ag _,VC w,(Below.refl _ _).alloc (ag _) _,List.nodup_nil,λj=>⟨(λhj=>by cases hj),?_⟩,λhl=>?_,λhl=>?_⟩⟩
   ·rintro⟨hj,hl⟩
    rw[eO M0,hno j hj]at hl;cases hl
   ·rw[eO M0,h55]at hl;cases hl
   rw[eO M0,h56]at hl;cases hl
  rw[Y]at Vl;cases Vl
 ·obtain⟨o,ho,hop,hd,hg⟩:=K.bl k hk
  have hr:(execOp a.eval o).run prog w=.ok (.value (kV (kL k).1)) w:=by
   rw[XT hk];have e:=Ui (ii[k]'hk).1.1 (ii[k]'hk).1.2 w;have e2:(#[(0,Operand.const (S (ii[k]'hk).1.1)),(1,Operand.const (S (ii[k]'hk).1.2))]:Array (Nat×Operand)).map (λ(i,x)=>(i,a.eval x))=#[(0,S (ii[k]'hk).1.1),(1,S (ii[k]'hk).1.2)]:=by simp[Act.eval]
   unfold execOp;simp only[hop,Sem.run_bind,e2,e,Result.andThen_ok,Sem.run_pure]
  refine rC ho hg hr ?_;rw[hd];refine⟨hsz,by rw[AF];exact h.t,by rw[AE];exact h.df,λj hj hl=>?_,?_⟩
  ·by_cases e:j=k
   ·subst e;exact put_eq (by rw[h.t];omega)
   rw[mR M0];exact h.ks j hj (by rw[<-hl,eO M0])
  rcases h.st with⟨Y,hw,hno,h55,h56⟩|⟨Y,b,D,s1,s2,s3,s4,s5,s6,s7,s8⟩
  ·exact .inl ⟨by rw[eO M0];exact Y,hw,λj hj=>by rw[eO M0];exact hno j hj,by rw[eO M0];exact h55,by rw[eO M0];exact h56⟩
  refine .inr ⟨by rw[eO M0];exact Y,b,D,by rw[mR M0];exact s1,s2,s3,s4,s5,λj=>?_,λhl=>?_,λhl=>?_⟩
  ·rw[eO M0];exact s6 j
  ·rw[mR M0];exact s7 (by rw[<-hl,eO M0])
  rw[mR M0];exact s8 (by rw[<-hl,eO M0])
 ·obtain⟨o,ho,hop,hd,hg⟩:=K.ins k hk
  have hl0:=mA hi (rR K.d1 hk);have hl1:=mA hi (rR K.d2 hk);rcases h.st with⟨Y,_⟩|⟨Y,b,D,s1,s2,s3,s4,s5,s6,s7,s8⟩
  ·rw[Y]at hl0;cases hl0
  have hkD:k∉D:=λhm=>by rw[((s6 k).mp hm).2]at Vl;cases Vl
  obtain⟨w',hrun,hm',hbel⟩:=VD s3 (kL k) (a0m (λj hj=>((s6 j).mp hj).1) hk hkD)
  have hr:(execOp a.eval o).run prog w=.ok .skip w':=by
   have e1:a.eval (.tmp 1)=.map (some b):=qN s1;have e2:a.eval (.tmp (k+2))=kV (kL k).1:=qN (h.ks k hk hl1);have e3:a.eval (.const (.int .i64 (ii[k]'hk).2))=.int .i64 (kL k).2:=by rw[XT hk];rfl
   unfold execOp;simp only[hop,e1,e2,e3,Sem.run_bind,hrun,Result.andThen_ok,Sem.run_pure]
  refine MQ ho hg hr ?_;rw[hd];refine⟨hsz,h.t,h.df,uz h (λj _=>M0) (λj _ e=>by cases e),.inr ⟨by rw[eO M0];exact Y,b,D++[k],s1,s2,by rw[eY];exact hm',s4.trans (hbel _ s2),?_,λj=>?_,λhl=>s7 (by rw[<-hl,eO M0]),λhl=>s8 (by rw[<-hl,eO M0])⟩⟩
  ·rw[List.nodup_append]
   exact⟨s5,List.nodup_cons.mpr ⟨Oc,List.nodup_nil⟩,λx X y hy=>by rw[dS.mp hy];rintro rfl;exact hkD X⟩
  rw[bO,dS];by_cases e:j=k
  ·subst e
   exact⟨λ_=>⟨hk,Ps hin⟩,λ_=>.inr rfl⟩
  rw[eO M0,<-s6 j];exact⟨λh=>h.resolve_right e,.inl⟩
 ·obtain⟨o,ho,hop,hd,hg⟩:=K.mv
  have hl0:=mA hi K.d3;rcases h.st with⟨Y,_⟩|⟨Y,b,D,s1,s2,s3,s4,s5,s6,s7,s8⟩
  ·rw[Y]at hl0;cases hl0
  have hr:(execOp a.eval o).run prog w=.ok (.value (.map (some b))) w:=by
   have e1:a.eval (.tmp 1)=.map (some b):=qN s1;unfold execOp;simp only[hop,e1,Sem.run_pure]
  refine rC ho hg hr ?_;rw[hd];refine⟨hsz,by rw[AF];exact h.t,by rw[AE];exact h.df,uz h (λk _=>M0) b0g,.inr ⟨by rw[eO M0];exact Y,b,D,by rw[mR M0];exact s1,s2,s3,s4,s5,λj=>by rw[eO M0];exact s6 j,λ_=>put_eq (d:=29) (by rw[h.t];decide),λhl=>?_⟩⟩;rw[mR M0];exact s8 (by rw[<-hl,eO M0])
 obtain⟨o,ho,hop,hd,hg⟩:=K.asg;have Va:=mA hi K.d4;rcases h.st with⟨Y,_,_,h55,_⟩|⟨Y,b,D,s1,s2,s3,s4,s5,s6,s7,s8⟩
 ·rw[h55]at Va;cases Va
 have hr:(execOp a.eval o).run prog w=.ok (.value (.map (some b))) w:=by
  have e1:a.eval (.tmp 29)=.map (some b):=qN (s7 Va);unfold execOp;simp only[hop,e1,Sem.run_pure]
 refine rC ho hg hr ?_;rw[hd]
 refine⟨hsz,by rw[AF];exact h.t,by rw[AE];exact h.df,uz h (λk _=>M0) ne0,.inr ⟨by rw[eO M0];exact Y,b,D,by rw[mR M0];exact s1,s2,s3,s4,s5,λj=>by
  by_cases hj:j<27
  ·rw[eO M0];exact s6 j
  rw[s6 j];exact⟨λh=>absurd h.1 hj,λh=>absurd h.1 hj⟩,λ_=>?_,λ_=>put_eq (d:=0) (by rw[h.t];decide)⟩⟩
 rw[mR M0];exact s7 Va
theorem Dw(n i:Nat):(Array.replicate n false).getD i false=false:=by
 rw[Yh,Array.getElem?_replicate]
 split <;>rfl
theorem As{ops:Array Oper}(K:YV ops)(Q:Exit->Act->H->Prop)(a:Act)(w:H)(ht:a.tmps.size=30)(hdf:a.defers=[])
  (hQ:∀ T b D w',T.size=30->T[0]? = some (Value.map (some b))->w.heap.size<=b->MapAt w' b D->List.Perm D ii->r7 w w'->Q .normal ⟨T,[]⟩ w'):wpAny prog .any ops Q ops.size (Array.replicate ops.size false) a w:=by
 refine zu (TU w) (λl a w' i h hi=>Gl K Q w l a w' i h hi) (λl a w' h hr=>?_) _ _ _ _ ?_ ?_
 ·have hall:=EP K h.n hr
  rcases h.st with⟨Y,_⟩|⟨Y,b,D,s1,s2,s3,s4,s5,s6,s7,s8⟩
  ·rw[hall 0 M0]at Y;cases Y
  obtain⟨T,df⟩:=a;obtain rfl:df=[]:=h.df;refine hQ T b (D.map kL) w' h.t (s8 (hall 56 M0)) s2 s3 ?_ s4
  have hp:D.Perm (List.range 27):=by
   refine(List.perm_ext_iff_of_nodup s5 List.nodup_range).mpr λj=>?_;rw[s6 j,List.mem_range];exact⟨λh=>h.1,λh=>⟨h,hall _ M0⟩⟩
  have:=hp.map kL;rw[QD]at this;exact this
 ·rw[Array.toList_replicate,List.count_replicate_self]
  exact ag _
 refine⟨by rw[Array.size_replicate,K.sz],ht,hdf,λk hk hl=>?_,.inl ⟨Dw _ _,rfl,λk hk=>Dw _ _,Dw _ _,Dw _ _⟩⟩;rw[Dw]at hl;cases hl
theorem LC(w:H):Calls prog 31 #[] w λe w'=>∃ b D,e=.returned (.map (some b))/\MapAt w' b D/\List.Perm D ii/\r7 w w':=by
 go_enter func31,ntmps31
 go_upto_region 1 with fail
 rename_i KK hKK
 refine wp_region_any Rz ?_;refine As ⟨rfl,⟨_,rfl,rfl,rfl,rfl⟩,?_,?_,⟨_,rfl,rfl,rfl,rfl⟩,⟨_,rfl,rfl,rfl,rfl⟩,Rz,Rz,Rz,Rz,Rz⟩ _ _ _ rfl rfl ?_
 iterate 2
  ·intro k hk
   match k,hk with
   |0,_|1,_|2,_|3,_|4,_|5,_|6,_|7,_|8,_|9,_|10,_|11,_|12,_|13,_|14,_|15,_|16,_|17,_|18,_|19,_|20,_|21,_|22,_|23,_|24,_|25,_|26,_=>exact⟨_,rfl,rfl,rfl,rfl⟩
   |n+27,h=>exact absurd h M0
 intro T b D w' hT h0 hle hm hp U;refine hKK _ _ ?_;refine wp_ret ?_;refine bodyPost_ret (v:=.map (some b)) ?_ rfl ⟨b,D,rfl,hm,hp,⟨U.os,U.tape,U.output,U.size,U.block⟩⟩;simp[results,results31,h0]
theorem Dc(el nm:O)(w:H)(Y:el.length<=1000000)(I:nm.length<=1000000):bF prog 14 #[.string (E el),.string (E nm)] w (.int .i64 (gA el nm)):=by
 have hl1:=λW=>ik el W (am Y P8);have hl2:=λW=>ik nm W (am I P8);obtain⟨eb,Td⟩:=V (E el);obtain⟨nb,hnb⟩:=V (E nm);obtain⟨la,hla⟩:=V (E (fG el));obtain⟨lb,hlb⟩:=V (E (fG nm));have J5:=F (show ∀W,bF prog 32 #[.string eb] W (.string la)from by rw[Td,hla];exact hl1);have HL2:=F (show ∀W,bF prog 32 #[.string nb] W (.string lb)from by rw[hnb,hlb];exact hl2);obtain⟨R,hR⟩:=V (gA el nm)
 have HMG:=F<|λ(W:H) (b:Nat) (D:List ((O×O)×Int)) (hm:MapAt W b D) (hp:D.Perm ii)=>(show(Instr.lookup 66 (.map (some b)) (.agg #[.string la,.string lb]) false).run prog W=.ok (.int .i64 R) W from by
  rw[hla,hlb,hR];have e:=VB hm (fG el,fG nm);rw[UT hp Vr]at e;exact e)
 rw[<-Td,<-hnb,<-hR];have W4:=F<|λW=>LC W;clear hl1 hl2 Td hnb hla hlb hR Y I;go_enter func14,ntmps14
 go_upto_region 1 with fail
 go_wp2_with (first
  |(go_at_call 31;refine(W4.o _).m ?_;rintro e w2 ⟨b,D,rfl,hm,hp,U⟩;have HM:=F hm;have HP:=F hp;have B2:=F U;clear hm hp U)
  |(go_at_call 32;(with_reducible refine(J5.o _).m ?_);rintro e w3 ⟨rfl,U⟩;have B3:=F U;clear U)
  |(go_at_call 32;(with_reducible refine(HL2.o _).m ?_);rintro e w4 ⟨rfl,U⟩;have hg:=HMG.o w4 b D ((HM.o.below B3.o).below U) HP.o;have B4:=F U;clear U))
 go_ret;exact⟨rfl,dw (dw B2.o B3.o) B4.o⟩
