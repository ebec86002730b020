import Derived.Laws.StructEq
import Derived.ChangeKeysEq
import Derived.Test.YtagfilhbpnjhkaaGreatDoorFGSixF
set_option maxRecDepth 10000
set_option maxHeartbeats 0
namespace Go.Proofs.Q
open Tryz Go.RowKit
section
variable {P:Program} {ops:Array Oper} {rest:List Oper} {o:Oper} {a:Act} {w:H} {Q:Exit->Act->H->Prop}
theorem nj(c:Region.wanted o (yielded ops a.tmps)=true)(v:Z)(d:(execOp a.eval o).run P w=.ok (.value v) w)(h:wpList P ops Q rest (a.put o.dst v) w):wpList P ops Q (o::rest) a w:=by
 unfold wpList;rw[ge c];refine .inl ?_;unfold Oper.wp;rw[d];exact h
theorem jl(c:Region.wanted o (yielded ops a.tmps)=true)(t:TypeId)(parts:Array (Nat×Operand))(d:o.op=.build t parts)(v:Z)(xs:Array (Nat×Z))(X:parts.map (λ(i,x)=>(i,a.eval x))=xs)(e:∀w,(Instr.build t xs).run P w=.ok v w)(h:wpList P ops Q rest (a.put o.dst v) w):wpList P ops Q (o::rest) a w:=by
 refine nj c v ?_ h;subst X;unfold execOp;simp only[d,h2,io,h1,e]
end
structure HB (W:H) (b:Nat) (h:gF):Prop where
 a:W.heap[b]?= some (.cells (aT h) 32 (0,0))
 l:h.six.length=8
theorem HB.new(W:H)(h:gF)(l:h.six.length=8):HB (W.alloc (.cells (aT h) 32)) W.heap.size h:=⟨jp W _,l⟩
theorem HB.cell{W:H}{b:Nat}{h:gF}(i:HB W b h)(j:Nat):W.cell? ⟨b,j,none⟩=(aT h)[j]?:=by
 simp[World.cell?,i.a]
theorem HB.load{W:H}{b:Nat}{h:gF}(i:HB W b h):(loadVar 32 ⟨b,0,none⟩).run prog W=.ok (.agg (aT h)) W:=oT W b h i.a i.l
section
variable {ops:Array Oper} {rest:List Oper} {o:Oper} {a:Act} {w:H} {Q:Exit->Act->H->Prop}
theorem AW{W:H}(f:o.guard=none)(x y:Operand)(g:o.op=.store 32 x y)(h:gF)(c:h.six.length=8)
  (e:W=w.alloc (.cells (aT H0) 32)) (X:a.eval x=.pointer (some ⟨w.heap.size,0,none⟩)) (hy:a.eval y=.agg (aT h))
  (k:∀d,HB d w.heap.size h->r7 w d->wpList prog ops Q rest (a.put o.dst undef) d):wpList prog ops Q (o::rest) a W:=by
 subst e;have i:(aT h).size=11:=by simp[aS,c]
 exact gy f 32 x y g (aT h) (aT H0) 32 X hy (hsize h c) (by rw[i];rfl) (XL h) (k _ (HB.new w h c) ((gT _ _).alloc (ag _) _))
theorem QN(c:Region.wanted o (yielded ops a.tmps)=true)(x:Operand)(d:o.op=.load 32 x)(b:Nat)(h:gF)(i:HB w b h)(X:a.eval x=.pointer (some ⟨b,0,none⟩))
  (k:wpList prog ops Q rest (a.put o.dst (.agg (aT h))) w):wpList prog ops Q (o::rest) a w:=by
 refine nj c (.agg (aT h)) ?_ k;have e:=i.load;unfold execOp;simp only[d,X,Instr.loadAt,Instr.sureAddr,h2,io,h1,e]
end
theorem dw{a b c:H}(Y:r7 a b)(I:r7 b c):r7 a c:=Y.trans (I.m Y.size)

def iI(s:O):O:=s.filter λc=>!(c==9||c==10||c==13)
def trimF(s:O):O:=((s.dropWhile λc=>decide (G c<=32)).reverse.dropWhile λc=>decide (G c<=32)).reverse
def eN(s:O):O:=iI (trimF s)
structure kW where
 gR:Bool
 aJ:O
 rest:O
 bZ:Bool
 q:O
 cg:Bool
 f:O
def bQ(c:UInt8):O->O×O×Bool
 | []=>([],[],false)
 |x::t=>if x=c then([],t,true)else(x::(bQ c t).1,(bQ c t).2.1,(bQ c t).2.2)
def iQ(c:Int):Bool:=decide ((65<=c/\c<=90)\/(97<=c/\c<=122))
def pr(c:Int):Bool:=iQ c||decide (48<=c/\c<=57)||decide (c=43\/c=45\/c=46)
def wH:O->Bool
 | []=>false
 |c::t=>iQ (G c)&&t.all λy=>pr (G y)
def fw(s:O):kW :=
 let a:=bQ 35 s
 let b:=bQ 63 a.1
 let c:=bQ 58 b.1
 if c.2.2=true/\wH c.1=true then⟨true,c.1.map dK,c.2.1,b.2.2,b.2.1,a.2.2,a.2.1⟩else⟨false,[],b.1,b.2.2,b.2.1,a.2.2,a.2.1⟩
def dJ:O->Bool
 | [a,b]=>iQ (G a)&&(b==58||b==124)
 |_=>false
def jN:O->Bool
 | [a,b]=>iQ (G a)&&b==58
 |_=>false
def fx:O->Bool
 | []=>false
 | [_]=>false
 | [a,b]=>dJ [a,b]
 |a::b::c::_=>dJ [a,b]&&(c==47||c==92||c==63||c==35)
def im:O->Option O
 | []=>none
 |c::t=>if c=46 then some t else match c,t with
  |37,50::y::r=>if y=101\/y=69 then some r else none
  |_,_=>none
def kC(s:O):Bool:=im s==some []
def jC(s:O):Bool:=match im s with|some r=>kC r|none=>false
def cE(aJ:O)(p:List O):List O:=match p with
 | []=>[]
 | [x]=>if aJ=[102,105,108,101]/\jN x=true then [x]else []
 |p=>p.dropLast
def lS(sp:Bool)(c:UInt8):Bool:=c==47||(sp&&c==92)
def gE(sp:Bool):O->List O
 | []=>[[]]
 |c::t=>if lS sp c=true then []::gE sp t else match gE sp t with | []=>[[c]]|p::ps=>(c::p)::ps
def kT(aJ:O)(out:List O)(p:O)(last:Bool):List O :=
 if jC p=true then(if last then cE aJ out++[[]]else cE aJ out)
 else if kC p=true then(if last then out++[[]]else out)
 else if aJ=[102,105,108,101]/\out=[]/\dJ p=true then out++[p.take 1++[58]]
 else out++[dD 4 p]
def kH(aJ:O):List O->List O->List O
 |out,[]=>out
 |out,[p]=>kT aJ out p true
 |out,p::q::r=>kH aJ (kT aJ out p false) (q::r)
def da(aJ:O)(path:List O)(s:O):List O:=kH aJ path (gE (eU aJ) s)
def aR:O:=[102,105,108,101]
def U0:Url:=⟨[],[],[],H0,false,0,false,[],[],false,[],false,[]⟩
def dp(aJ:O)(p:kW):Url:={U0 with aJ:=aJ,bZ:=p.bZ,q:=dD (if eU aJ=true then 3 else 2) p.q,cg:=p.cg,f:=dD 1 p.f}
def uE(sp:Bool)(s:O):Nat:=(s.takeWhile (lS sp)).length
def gW(aJ s:O):List O:=da aJ [] (if 0<uE (eU aJ) s then s.drop 1 else s)
def dU(sp:Bool)(s:O):O×O:=(s.takeWhile λc=>!lS sp c,s.dropWhile λc=>!lS sp c)
def jS(u:Url)(s:O):Option Url :=
 let c:=dU (eU u.aJ) s
 match kr u.aJ c.1 with
 |none=>none
 |some a=>some {u with usr:=a.user,ib:=a.pass,host:=a.host,bz:=a.bz,port:=a.port,path:=if eU u.aJ=true\/c.2 ≠ []then gW u.aJ c.2 else u.path}
def takeA(u b:Url):Url:={u with usr:=b.usr,ib:=b.ib,host:=b.host,bz:=b.bz,port:=b.port}
def fM(u b:Url):Url:=if u.bZ=true then {u with path:=b.path}else {u with path:=b.path,bZ:=b.bZ,q:=b.q}
def iy(u:Url)(s:O):Option Url :=
 let c:=dU true s
 if dJ c.1=true then some {u with path:=da u.aJ [] s}
 else if c.1=[]then some {u with path:=gW u.aJ c.2}
 else match fm c.1 true with
  |none=>none
  |some h=>some {u with host:=if h.kind=2/\h.name=[108,111,99,97,108,104,111,115,116]then u.host else h,path:=gW u.aJ c.2}
def lG(b:Url)(p:kW):Option Url :=
 let u:={dp aR p with host:={H0 with kind:=1}}
 let from_:=decide (b.aJ=aR)
 let n:=uE (eU aR) p.rest
 if 2<=n then iy u (p.rest.drop 2)
 else
  let u:=if from_ then {u with host:=b.host}else u
  if n=1 then
   let rest:=p.rest.drop 1
   let path:=if from_=true/\(match b.path with|x::_=>jN x | []=>false)=true/\fx rest=false then b.path.take 1 else []
   some {u with path:=da aR path rest}
  else if from_=true/\p.rest=[]then some (fM u b)
  else if from_=true/\fx p.rest=false then some {u with path:=da aR (cE aR b.path) p.rest}
  else some {u with path:=da aR [] p.rest}
def gi(p:kW):Option Url :=
 let u:=dp p.aJ p
 match p.rest with
 |47::47::r=>jS u r
 |47::r=>some {u with path:=da u.aJ [] r}
 |s =>
  let fl:=dD 0 s
  some {u with opq:=true,flat:=if(p.bZ=true\/p.cg=true)/\fl.getLast? = some 32 then fl.dropLast++[37,50,48]else fl}
def k5(b:Url)(p:kW):Option Url:=if p.cg=false\/p.bZ=true\/p.rest ≠ []then none else some {b with cg:=true,f:=dD 1 p.f}
def ri(b:Url)(p:kW):Option Url :=
 let u:=dp b.aJ p
 let n:=uE (eU b.aJ) p.rest
 if 2<=n/\eU b.aJ=true then jS u (p.rest.drop n)
 else if 2<=n then jS u (p.rest.drop 2)
 else if n=1 then some {takeA u b with path:=da b.aJ [] (p.rest.drop 1)}
 else if p.rest=[]then some (fM (takeA u b) b)
 else some {takeA u b with path:=da b.aJ (cE b.aJ b.path) p.rest}
def eL(b:Url)(p:kW):Option Url :=
 if(p.gR=true/\p.aJ=aR)\/(p.gR=false/\b.opq=false/\b.aJ=aR)then lG b p
 else if(p.gR=true/\eU p.aJ=true)/\(p.aJ≠b.aJ\/p.rest.take 2=[47,47])then jS (dp p.aJ p) (p.rest.drop (uE (eU p.aJ) p.rest))
 else if p.gR=true/\¬eU p.aJ=true then gi p
 else if b.opq=true then k5 b p
 else ri b p
def kF(b:Url)(s:O):Option Url:=eL b (fw (eN s))
def eF(s:O):Option Url:=if(fw (eN s)).gR=true then eL U0 (fw (eN s))else none

def mw(x:UInt8):Bool:=iW (G x)
def bT(s:O):O:=s.dropWhile mw
def pG(x:UInt8):Bool:=decide (48<=G x/\G x<=57)
def pd(x:UInt8):Bool:=decide (x=46)||pG x
def a05:O:=[117,114,108]
def lW(s:O):O :=
 if(s.take 3).map dK=a05 then(match bT (s.drop 3)with
  | []=>s
  |c::t=>if c=61 then bT t else s)
 else s
def xI:O->O
 | []=>[]
 |x::r=>if x=34\/x=39 then r.takeWhile (· != x)else x::r
structure Kg where
 delay:O
 has:Bool
 url:O
def z48(x:UInt8):Bool:=decide (x=48)
def mz(d:O):O:=if d.dropWhile z48=[]then [48]else d.dropWhile z48
def xH:O->O
 | []=>[]
 |c::r=>if c=59\/c=44 then bT r else c::r
def rfT(d t:O):Option Kg:=match t with
 | []=>some ⟨d,false,[]⟩
 |c::_=>if mw c=false/\c≠59/\c≠44 then none
  else if xH (bT t)=[]then some ⟨d,false,[]⟩else some ⟨d,true,xI (lW (xH (bT t)))⟩
def rfG(s:O):Option Kg:=if s.takeWhile pG=[]/\s.head? ≠ some 46 then none else rfT (mz (s.takeWhile pG)) ((s.dropWhile pG).dropWhile pd)
def Dx(s:O):Option Kg:=rfG (bT s)
structure a61 (d:O):Prop where
 n:d ≠ []
 a:∀x∈d,pG x=true
 z:mz d=d
theorem b31:∀k:Fin 256,pG (UInt8.ofNat k.val)=true->mw (UInt8.ofNat k.val)=false/\UInt8.ofNat k.val≠59/\UInt8.ofNat k.val≠44/\UInt8.ofNat k.val≠38:=by decide +kernel
theorem b3h{x:UInt8}(h:pG x=true):mw x=false/\x≠59/\x≠44/\x≠38:=ku (P:=λx=>pG x=true->mw x=false/\x≠59/\x≠44/\x≠38) b31 x h
theorem Fv{p:UInt8->Bool}{x:UInt8}{r:O}(h:p x=false):(x::r).dropWhile p=x::r:=aX (by rw[h];simp)
theorem Fu{p:UInt8->Bool}:∀{d:O} (t:O),(∀x∈d,p x=true)->(d++t).dropWhile p=t.dropWhile p
 | [],_,_=>rfl
 |x::d,t,h=>by
  show((x::(d++t)).dropWhile p)=_;rw[aQ (h x Oc),Fu t λy hy=>h y (by simp[hy])]
theorem b7v{p:UInt8->Bool}:∀{d:O} (t:O),(∀x∈d,p x=true)->(d++t).takeWhile p=d++t.takeWhile p
 | [],_,_=>rfl
 |x::d,t,h=>by
  show((x::(d++t)).takeWhile p)=_;rw[bJ (h x Oc),b7v t λy hy=>h y (by simp[hy])];rfl
theorem b3r{d x:O}(h:a61 d):Dx (d++([59,32,117,114,108,61]++x))=some ⟨d,true,xI (bT x)⟩:=by
 have Y:bT (d++([59,32,117,114,108,61]++x))=d++([59,32,117,114,108,61]++x):=by
  cases hd:d with
  |nil=>exact absurd hd h.n
  |cons y r=>exact Fv (b3h (h.a y (by rw[hd];simp))).1
 have hne:pG 59=false:=P8
 have I:(d++([59,32,117,114,108,61]++x)).takeWhile pG=d:=by
  rw[b7v (p:=pG) _ h.a];show d++(59::([32,117,114,108,61]++x)).takeWhile pG=d;rw[bI P8,aV]
 have j:(d++([59,32,117,114,108,61]++x)).dropWhile pG=[59,32,117,114,108,61]++x:=by
  rw[Fu (p:=pG) _ h.a];exact Fv P8
 have k:([59,32,117,114,108,61]++x).dropWhile pd=[59,32,117,114,108,61]++x:=Fv P8;unfold Dx rfG;rw[Y,I,j,k,gc (λhh=>h.n hh.1),h.z];have f:bT ([59,32,117,114,108,61]++x)=[59,32,117,114,108,61]++x:=Fv P8
 have g:xH ([59,32,117,114,108,61]++x)=[117,114,108,61]++x:=by
  show(if(59:UInt8)=59\/(59:UInt8)=44 then bT ([32,117,114,108,61]++x)else 59::([32,117,114,108,61]++x))=_;rw[ge (.inl rfl)];show(32::([117,114,108,61]++x)).dropWhile mw=_;rw[aQ P8];exact Fv P8
 have i:lW ([117,114,108,61]++x)=bT x:=by
  unfold lW
  have e:(([117,114,108,61]++x).take 3).map dK=a05:=by
   show [dK 117,dK 114,dK 108]=a05;decide
  have a2:bT (([117,114,108,61]++x).drop 3)=61::x:=Fv P8;rw[ge e,a2];rfl
 show rfT d (59::([32,117,114,108,61]++x))=_;unfold rfT;dsimp only;rw[gc Oc];have c:bT (59::([32,117,114,108,61]++x))=[59,32,117,114,108,61]++x:=f;rw[c,g,gc Oc,i]
theorem b1d(s:O)(c:∀x∈s,pG x=true):a61 (mz s):=by
 have key:∀l:O,(l.dropWhile z48).dropWhile z48=l.dropWhile z48:=by
  intro l
  induction l with
  |nil=>rfl
  |cons x r d =>
   by_cases X:z48 x=true
   ·rw[aQ X];exact d
   rw[aX X,aX X]
 unfold mz
 split
 ·exact⟨Oc,P8,P8⟩
 next h =>
 refine⟨h,λx X=>c x ((ce _).subset X),?_⟩;unfold mz;rw[key,gc h]
theorem b4b{p:UInt8->Bool}:∀(s:O),∀x∈s.takeWhile p,p x=true
 | [],x,h=>by cases h
 |y::r,x,h=>by
  by_cases hy:p y=true
  ·rw[bJ hy]at h
   rcases aK.mp h with rfl|h
   ·exact hy
   exact b4b r x h
  rw[bI hy]at h;cases h
theorem a7Z{s:O}{r:Kg}(h:Dx s=some r):a61 r.delay:=by
 unfold Dx rfG at h
 split at h
 ·cases h
 have hd:=b1d _ (b4b (p:=pG) (bT s));unfold rfT at h
 split at h
 ·cases h;exact hd
 split at h
 ·cases h
 split at h <;>(cases h;exact hd)

def a45:Nat:=4607182418800017408
def Si:Nat:=4621819117588971520
def li:Nat->Nat
 |0=>a45
 |k+1=>(Ieee.double.mul (li k) Si).getD 0
theorem pow_mul:∀k:Fin 22,Ieee.double.mul (li k.val) Si=some (li (k.val+1)):=by decide +kernel
theorem Rr{k:Nat}(h:k<22):Ieee.double.mul (li k) Si=some (li (k+1)):=pow_mul ⟨k,h⟩
def KY(b:Nat):Bool:=match Ieee.double.read b with
 | .number _ m _=>m != 0
 |_=>false
theorem VX:∀k:Fin 23,KY (li k.val)=true:=by decide +kernel
def okB(b:Nat):Bool:=match Ieee.double.read b with
 | .nan ..=>false
 |_=>true
theorem a0t{a b:Nat}(c:okB a=true)(U:KY b=true):∃r,Ieee.double.mul a b=some r:=by
 unfold okB at c;unfold KY at U;unfold Ieee.Format.mul;generalize Ieee.double.read a=x at c⊢;generalize Ieee.double.read b=y at U⊢;cases y with
 |number t n j =>
  have d:n≠0:=by simpa using U
  cases x with
  |number s m i=>exact⟨_,rfl⟩
  |infinity s=>simp[Ieee.Datum.product,d]
  |nan s f=>cases c
 |infinity s=>cases U
 |nan s f=>cases U
theorem Zn{a b:Nat}(c:okB a=true)(U:KY b=true):∃r,Ieee.double.div a b=some r:=by
 unfold okB at c;unfold KY at U;unfold Ieee.Format.div;generalize Ieee.double.read a=x at c⊢;generalize Ieee.double.read b=y at U⊢;cases y with
 |number t n j =>
  have d:n≠0:=by simpa using U
  cases x with
  |number s m i=>simp[Ieee.Datum.quotient,d]
  |infinity s=>exact⟨_,rfl⟩
  |nan s f=>cases c
 |infinity s=>cases U
 |nan s f=>cases U
theorem SI(f:Ieee.Format)(neg:Bool){r:Nat}(h:r<f.signWeight):f.word neg r%f.signWeight=r:=by
 unfold Ieee.Format.word
 split
 ·rw[Nat.add_mod,Nat.mod_self,bM,Nat.mod_mod,S9 h]
 exact S9 h
theorem JS(neg:Bool){r:Nat}(h:r<=Ieee.double.infRung):okB (Ieee.double.word neg r)=true:=by
 have hw:r<Ieee.double.signWeight:=Nat.lt_of_le_of_lt h Ieee.double.infRung_lt;unfold okB Ieee.Format.read;simp only[SI _ neg hw]
 split
 ·next e =>
  split at e
  ·cases e
  split at e
  ·cases e
  split at e
  ·cases e
  omega
 rfl
theorem VF(neg:Bool)(m:Nat)(p:Int):okB (Ieee.double.nearest neg m p)=true:=by
 unfold Ieee.Format.nearest;dsimp only
 split
 ·exact JS _ (aL _)
 exact JS _ (Nat.min_le_right ..)
theorem a0i(n:Int):okB (floatOfInt .f64 n)=true:=VF _ _ _
def moveB(x:Nat)(n:Int):Nat:=if n<0 then(Ieee.double.div x (li n.natAbs)).getD 0 else(Ieee.double.mul x (li n.natAbs)).getD 0
def qO(s:O):Option Int :=
 if s.head? = some 45 then(if 4<(s.drop 1).length then none else(dc (s.drop 1)).map λn=>-n)
 else if 4<(if s.head? = some 43 then s.drop 1 else s).length then none else dc (if s.head? = some 43 then s.drop 1 else s)
def Cx(t:O)(m:Int):Option (Int×Int) :=
 if((bQ 46 t).2.2=true/\(bQ 46 t).2.1=[])\/15<(bQ 46 t).1.length+(bQ 46 t).2.1.length then none
 else match dc ((bQ 46 t).1++(bQ 46 t).2.1)with
  |none=>none
  |some n=>if m-((bQ 46 t).2.1.length:Int) < -22\/22<m-((bQ 46 t).2.1.length:Int)then none else some (n,m-((bQ 46 t).2.1.length:Int))
def isE(x:UInt8):Bool:=decide (x=101\/x=69)
def nE(x:UInt8):Bool:=!isE x
def sf(t:O):Option (Int×Int):=match t.dropWhile nE with
 | []=>Cx t 0
 |_::u=>match qO u with
  |none=>none
  |some m=>Cx (t.takeWhile nE) m
structure Flo where
 below:Bool
 n:Int
 m:Int
def si(f:Flo):Nat:=if f.below=true/\f.n≠0 then Op.negFloat .f64 (moveB (floatOfInt .f64 f.n) f.m)else moveB (floatOfInt .f64 f.n) f.m
def geB(b:Nat):Bool:=FloatKind.f64.format.order b 0==some .gt||FloatKind.f64.format.order b 0==some .eq
def FJ(s:O):Option Flo:=if s.head? = some 45 then(sf (s.drop 1)).map λp=>⟨true,p.1,p.2⟩else(sf s).map λp=>⟨false,p.1,p.2⟩
structure dk where
 url:O
 words:List O
 hw:Bool
 w:Int
 hh:Bool
 h:Int
 hd:Bool
 d:Nat
def C0:dk:=⟨[],[],false,0,false,0,false,0⟩
def ni(c:dk)(word:O):Option dk:=match word.getLast? with
 |none=>none
 |some l =>
  if l=119 then(match dc word.dropLast with
   |none=>none
   |some n=>if n<1\/c.hw=true\/c.hd=true then none else some {c with hw:=true,w:=n})
  else if l=104 then(match dc word.dropLast with
   |none=>none
   |some n=>if n<1\/c.hh=true\/c.hd=true then none else some {c with hh:=true,h:=n})
  else if l=120 then(match FJ word.dropLast with
   |none=>none
   |some f=>if geB (si f)=false\/c.hw=true\/c.hh=true\/c.hd=true then none else some {c with hd:=true,d:=si f})
  else none
def lU(c:dk):List O->Option dk
 | []=>some c
 |x::l=>match ni c x with
  |none=>none
  |some c'=>lU c' l
def jM(ws:List O):Option dk:=match lU C0 ws with
 |none=>none
 |some c=>if c.hh=true/\c.hw=false then none else some {c with words:=ws}
def fS(x:UInt8):Bool:=decide (x=44)||mw x
def fU(x:UInt8):Bool:=!mw x
def gN:Bool->O->Nat
 |_,[]=>0
 |true,x::r=>gN (decide (x≠41)) r+1
 |false,x::r=>if x=40 then gN true r+1 else if fS x=true then 0 else gN false r+1
theorem lY:∀(s:O) (i:Bool),gN i s<=s.length
 | [],i=>by cases i <;>exact ag _
 |x::r,true=>by
  have:=lY r (decide (x≠41));rw[gN,cz];omega
 |x::r,false=>by
  rw[gN,cz]
  split
  ·have:=lY r true;omega
  split
  ·exact aL _
  have:=lY r false;omega
def jQ:Nat->O->List O×O
 |0,s=>([],s)
 |k+1,s=>if gN false (s.dropWhile mw)=0 then([],s.dropWhile mw)
  else((s.dropWhile mw).take (gN false (s.dropWhile mw))::(jQ k ((s.dropWhile mw).drop (gN false (s.dropWhile mw)))).1,(jQ k ((s.dropWhile mw).drop (gN false (s.dropWhile mw)))).2)
def j7(s:O):List O×O:=jQ s.length s
theorem gJ(p:UInt8->Bool)(s:O):(s.dropWhile p).length<=s.length:=(ce p).length_le
theorem xj:∀(k c:Nat) (s:O),s.length<=k->s.length<=c->jQ k s=jQ c s
 |0,0,_,_,_=>rfl
 |0,c+1,s,h,_=>by
  have e:s=[]:=az M0;subst e;rfl
 |k+1,0,s,_,h=>by
  have e:s=[]:=az M0;subst e;rfl
 |k+1,c+1,s,h,h'=>by
  unfold jQ;have Y:=gJ mw s
  split
  ·rfl
  next hz =>
  have I:((s.dropWhile mw).drop (gN false (s.dropWhile mw))).length<=(s.dropWhile mw).length-1:=by rw[aj];omega
  have h3:0<(s.dropWhile mw).length:=by
   have:=lY (s.dropWhile mw) false;omega
  rw[xj k c _ M0 M0]
theorem a1b(s:O):j7 s=if gN false (s.dropWhile mw)=0 then([],s.dropWhile mw)
  else((s.dropWhile mw).take (gN false (s.dropWhile mw))::(j7 ((s.dropWhile mw).drop (gN false (s.dropWhile mw)))).1,(j7 ((s.dropWhile mw).drop (gN false (s.dropWhile mw)))).2):=by
 have Y:=gJ mw s;unfold j7;rw[xj s.length (s.length+1) s (ag _) (gQ _)]
 conv=>lhs;unfold jQ
 split
 ·rfl
 rw[xj s.length _ _ (by rw[aj];omega) (ag _)]
theorem Hh:∀(k:Nat) (s:O),(jQ k s).2.length<=s.length
 |0,s=>ag _
 |k+1,s=>by
  have Y:=gJ mw s;unfold jQ
  split
  ·exact Y
  have:=Hh k ((s.dropWhile mw).drop (gN false (s.dropWhile mw)));rw[aj]at this;show(jQ k _).2.length<=_;omega
def gM(u:O):O:=(u.reverse.dropWhile λx=>decide (x=44)).reverse
def nQ(u:O):Bool:=decide (u.getLast? = some 44)
structure Stp where
 url:O
 words:List O
 rest:O
def jt(t:O):Stp:=if nQ (t.takeWhile fU)=true then⟨gM (t.takeWhile fU),[],t.dropWhile fU⟩
 else⟨t.takeWhile fU,(j7 (t.dropWhile fU)).1,(j7 (t.dropWhile fU)).2.drop 1⟩
def tU(q:Stp)(l:List dk):List dk:=match jM q.words with
 |none=>l
 |some c=>{c with url:=q.url}::l
def gL:Nat->O->List dk
 |0,_=>[]
 |k+1,s=>if s.dropWhile fS=[]then []else tU (jt (s.dropWhile fS)) (gL k (jt (s.dropWhile fS)).rest)
def jF(s:O):List dk:=gL s.length s
theorem dw_head{p:UInt8->Bool}:∀{s:O},s.dropWhile p ≠ []->∃x r,s.dropWhile p=x::r/\p x=false
 | [],h=>absurd rfl h
 |x::r,h=>by
  cases hp:p x with
  |true=>rw[aQ hp]at h⊢;exact dw_head h
  |false=>exact⟨x,r,Fv hp,hp⟩
theorem Oo{x:UInt8}(h:fS x=false):fU x=true:=by
 unfold fS at h;unfold fU;cases U:mw x with
 |true=>rw[U,b3G]at h;cases h
 |false=>rfl
theorem AX{s:O}(h:s.dropWhile fS ≠ []):(jt (s.dropWhile fS)).rest.length<s.length:=by
 have Y:=gJ fS s;obtain⟨x,r,e,X⟩:=dw_head h;rw[e]at Y⊢;have I:((x::r).dropWhile fU).length<=r.length:=by rw[aQ (Oo X)];exact gJ _ _
 rw[cz]at Y;unfold jt
 split
 ·show((x::r).dropWhile fU).length<_;omega
 show((j7 ((x::r).dropWhile fU)).2.drop 1).length<_;have h3:(j7 ((x::r).dropWhile fU)).2.length<=((x::r).dropWhile fU).length:=Hh _ _;rw[aj];omega
theorem wN:∀(k c:Nat) (s:O),s.length<=k->s.length<=c->gL k s=gL c s
 |0,0,_,_,_=>rfl
 |0,c+1,s,h,_=>by
  have e:s=[]:=az M0;subst e;rfl
 |k+1,0,s,_,h=>by
  have e:s=[]:=az M0;subst e;rfl
 |k+1,c+1,s,h,h'=>by
  unfold gL
  split
  ·rfl
  next d =>
  have:=AX d;rw[wN k c _ M0 M0]
theorem a0U(s:O):jF s=if s.dropWhile fS=[]then []else tU (jt (s.dropWhile fS)) (jF (jt (s.dropWhile fS)).rest):=by
 unfold jF;rw[wN s.length (s.length+1) s (ag _) (gQ _)]
 conv=>lhs;unfold gL
 split
 ·rfl
 next c =>
 have:=AX c;rw[wN s.length _ _ M0 (ag _)]

theorem yk{c:UInt8}:∀{s:O},c∉s->bQ c s=(s,[],false)
 | [],_=>rfl
 |x::t,h=>by rw[bQ,gc (λe=>h (by simp[e])),yk (s:=t) (λI=>h (by simp[I]))]
theorem Fj{c:UInt8}(a b:O)(h:c∉a):bQ c (a++c::b)=(a,b,true):=by
 induction a with
 |nil=>rw[f9,bQ,ge rfl]
 |cons x r d=>rw[dE,bQ,gc (λe=>h (by simp[e])),d (λI=>h (by simp[I]))]
theorem zV(c:UInt8):∀s:O,c∉(bQ c s).1
 | []=>by simp[bQ]
 |x::t=>by
  rw[bQ]
  split
  ·simp
  next h =>
  intro hm;rcases aK.mp hm with hm|hm
  ·exact h hm.symm
  exact zV c t hm
theorem mn(c:UInt8):∀s:O,s=(bQ c s).1++(if(bQ c s).2.2=true then c::(bQ c s).2.1 else [])
 | []=>rfl
 |x::t=>by
  rw[bQ]
  split
  ·next h=>rw[ge rfl,h];rfl
  rw[dE,<-mn c t]
theorem gm(c:UInt8):∀s:O,(bQ c s).2.2=false->(bQ c s).2.1=[]
 | [],_=>rfl
 |x::t,h=>by
  rw[bQ]at h⊢
  split at h
  ·cases h
  next X=>rw[gc X];exact gm c t h
theorem a88{s:O}(h:∀y∈s,y≠9/\y≠10/\y≠13):iI s=s:=by
 unfold iI;rw[a8n];intro y hy;obtain⟨Y,I,c⟩:=h y hy;simp[Y,I,c]
theorem b0Z{s:O}(Y:∀x,s.head? = some x->¬G x<=32)(I:∀x,s.getLast? = some x->¬G x<=32):trimF s=s:=by
 have key:∀l:O,(∀x,l.head? = some x->¬G x<=32)->l.dropWhile (λc=>decide (G c<=32))=l:=by
  intro l d;cases l with
  |nil=>rfl
  |cons x r=>rw[aX (by simpa using d x rfl)]
 unfold trimF;rw[key s Y,key s.reverse (by intro x X;rw[List.head?_reverse]at X;exact I x X),b2R]
theorem a8y{s:O}(h:∀y∈s,32<=G y)(Y:∀x,s.head? = some x->¬G x<=32)(I:∀x,s.getLast? = some x->¬G x<=32):eN s=s:=by
 unfold eN;rw[b0Z Y I,a88];intro y hy;have:=h y hy;refine⟨?_,?_,?_⟩ <;>rintro rfl <;>revert this <;>decide
theorem uD(sp:Bool):∀s,∃p d,gE sp s=p::d
 | []=>⟨_,_,rfl⟩
 |c::t=>by
  rw[gE]
  split
  ·exact⟨_,_,rfl⟩
  obtain⟨p,d,h⟩:=uD sp t;rw[h];exact⟨_,_,rfl⟩
theorem GT{sp:Bool}{p:O}(h:∀y∈p,lS sp y=false):gE sp p=[p]:=by
 induction p with
 |nil=>rfl
 |cons x r c =>
  rw[gE,gc (by rw[h x Oc];simp),c (λy hy=>h y (by simp[hy]))]
theorem a76{sp:Bool}{p:O}(h:∀y∈p,lS sp y=false)(t:O):gE sp (p++47::t)=p::gE sp t:=by
 induction p with
 |nil=>rw[f9,gE,ge r5]
 |cons x r c =>
  rw[dE,gE,gc (by rw[h x Oc];simp),c (λy hy=>h y (by simp[hy]))]
theorem a56{sp:Bool}:∀(p:O) (c:List O),(∀q∈p::c,∀y∈q,lS sp y=false)->gE sp (p++cH c)=p::c
 |p,[],h=>by
  have e:cH []=[]:=rfl;rw[e,aV,GT (h p Oc)]
 |p,q::r,h=>by
  have e:cH (q::r)=47::(q++cH r):=by simp[cH]
  rw[e,a76 (h p Oc),a56 q r (λz d=>h z (by simp only[aK]at d⊢;exact .inr d))]

theorem LY:∀k:Fin 256,(xq 4 (UInt8.ofNat k.val)).all (λy=>!k6 4 (G y)&&(y==UInt8.ofNat k.val||y==37||(decide (48<=G y/\G y<=57)||decide (65<=G y/\G y<=70))))=true:=by decide +kernel
theorem Jv{l:O}{y:UInt8}(h:y∈dD 4 l):k6 4 (G y)=false/\(y∈l\/y=37\/(48<=G y/\G y<=57)\/(65<=G y/\G y<=70)):=by
 obtain⟨x,X,hy⟩:=S8.mp h;have c:=LY ⟨x.toNat,x.toNat_lt⟩;simp only[dN]at c;have:=dl.mp c y hy;simp only[f8,kj,a3W,beq_iff_eq,gx]at this;obtain⟨Y,I⟩:=this;refine⟨Y,?_⟩;rcases I with(I|I)|I
 ·exact .inl (I▸X)
 ·exact .inr (.inl I)
 exact .inr (.inr I)
theorem Rm(l:O):dD 4 (dD 4 l)=dD 4 l:=Az λ_ hy=>(Jv hy).1
theorem a6x(sp:Bool):lS sp 47=true:=rfl
theorem a0B{sp:Bool}{l:O}(h:∀y∈l,lS sp y=false):∀y∈dD 4 l,lS sp y=false:=by
 intro y hy;rcases(Jv hy).2 with Y|Y|Y
 ·exact h y Y
 ·subst Y;cases sp <;>rfl
 have e47:G 47=47:=P8;have e92:G 92=92:=P8;have c:y≠47:=λe=>by rw[e]at Y;omega
 have d:y≠92:=λe=>by rw[e]at Y;omega
 unfold lS;simp[c,d]
theorem gw(set:Int)(c:UInt8)(t:O):dD set (c::t)=xq set c++dD set t:=by unfold dD;simp
theorem wk{set:Int}{c:UInt8}(h:k6 set (G c)=true):xq set c=[37,pm (c.toNat/16),pm (c.toNat%16)]:=by unfold xq;rw[ge h]
theorem j0{set:Int}{c:UInt8}(h:k6 set (G c)=false):xq set c=[c]:=by unfold xq;rw[gc (by simp[h])]
theorem Lk:∀k:Fin 256,k6 4 (G (UInt8.ofNat k.val))=true->UInt8.ofNat k.val≠46/\UInt8.ofNat k.val≠37/\UInt8.ofNat k.val≠50/\UInt8.ofNat k.val≠101/\UInt8.ofNat k.val≠69/\(pm (k.val/16)=50->pm (k.val%16)≠101/\pm (k.val%16)≠69):=by decide +kernel
theorem a0g{c:UInt8}(h:k6 4 (G c)=true):c≠46/\c≠37/\c≠50/\c≠101/\c≠69/\(pm (c.toNat/16)=50->pm (c.toNat%16)≠101/\pm (c.toNat%16)≠69):=by
 have:=Lk ⟨c.toNat,c.toNat_lt⟩;simp only[dN]at this;exact this h
theorem E4(t:O):im (46::t)=some t:=by unfold im;dsimp only;rw[ge rfl]
theorem kf{c:UInt8}(Y:c≠46)(I:c≠37)(t:O):im (c::t)=none:=by
 unfold im;dsimp only;rw[gc Y]
 split
 ·next h=>exact absurd rfl I
 rfl
theorem oK(y:UInt8)(r:O):im (37::50::y::r)=if y=101\/y=69 then some r else none:=by
 unfold im;dsimp only;rw[gc P8];rfl
theorem nM{d:UInt8}(h:d≠50)(t:O):im (37::d::t)=none:=by
 unfold im;dsimp only;rw[gc P8]
 split
 ·rename_i heq
  first
   |(injection heq with c e2;exact absurd c h)
   |exact absurd heq h
 rfl
theorem N6:∀p:O,im (dD 4 p)=(im p).map (dD 4)
 | []=>rfl
 |c::t=>by
  cases i:k6 4 (G c)with
  |true =>
   obtain⟨Y,I,_,_,_,k⟩:=a0g i;rw[gw,wk i,kf Y I];show im (37::pm (c.toNat/16)::pm (c.toNat%16)::dD 4 t)=none;by_cases g:pm (c.toNat/16)=50
   ·rw[g,oK,gc (by have:=k g;simp[this.1,this.2])]
   exact nM g _
  |false =>
   rw[gw,j0 i];show im (c::dD 4 t)=_;by_cases f:c=46
   ·subst f;rw[E4,E4];rfl
   by_cases e:c=37
   ·subst e
    cases t with
    |nil=>rfl
    |cons d t2 =>
     by_cases hd:d=50
     ·subst hd
      have h:k6 4 (G 50)=false:=P8;rw[gw,j0 h];show im (37::50::dD 4 t2)=_;cases t2 with
      |nil=>rfl
      |cons y r =>
       rw[oK];by_cases hy:y=101\/y=69
       ·have j:k6 4 (G y)=false:=by rcases hy with rfl|rfl <;>decide
        rw[ge hy,gw,j0 j];show im (37::50::y::dD 4 r)=_;rw[oK,ge hy];rfl
       rw[gc hy,gw];cases hi:k6 4 (G y)with
       |true =>
        rw[wk hi];show im (37::50::37::_)=none;rw[oK,gc P8]
       |false =>
        rw[j0 hi];show im (37::50::y::_)=none;rw[oK,gc hy]
     rw[nM hd,gw];cases hi:k6 4 (G d)with
     |true =>
      rw[wk hi];exact nM P8 _
     |false =>
      rw[j0 hi];exact nM hd _
   rw[kf f e,kf f e];rfl
theorem VP{l:O}:dD 4 l=[] ↔ l=[]:=by
 constructor
 ·intro h
  cases l with
  |nil=>rfl
  |cons c t =>
   rw[gw]at h;have:=(lr.mp h).1;unfold xq at this
   split at this <;>cases this
 rintro rfl;rfl
theorem OP(p:O):kC (dD 4 p)=kC p:=by
 unfold kC;rw[N6];cases im p with
 |none=>rfl
 |some r =>
  rw[bX];simp only[Xg,beq_iff_eq,ly];exact VP
theorem Uw(p:O):jC (dD 4 p)=jC p:=by
 unfold jC;rw[N6];cases im p with
 |none=>rfl
 |some r=>exact OP r

structure Bk (sp:Bool) (p:O):Prop where
 e:dD 4 p=p
 s:∀y∈p,lS sp y=false
 d:kC p=false
 dd:jC p=false
theorem Jw(sp:Bool):Bk sp []:=⟨rfl,λ_ h=>(by cases h),rfl,rfl⟩
theorem a0C{sp:Bool}{p:O}(c:∀y∈p,lS sp y=false)(Y:kC p=false)(I:jC p=false):Bk sp (dD 4 p) :=
 ⟨Rm p,a0B c,by rw[OP];exact Y,by rw[Uw];exact I⟩
theorem KJ{sp:Bool}{p:O}(h:dJ p=true):Bk sp (p.take 1++[58]):=by
 match p,h with
 | [a,b],h =>
  have key:∀k:Fin 256,iQ (G (UInt8.ofNat k.val))=true->k6 4 (G (UInt8.ofNat k.val))=false/\UInt8.ofNat k.val≠47/\UInt8.ofNat k.val≠92/\UInt8.ofNat k.val≠46/\UInt8.ofNat k.val≠37:=by decide +kernel
  have i:iQ (G a)=true:=by
   unfold dJ at h;rw[f8]at h;exact h.1
  have f:=key ⟨a.toNat,a.toNat_lt⟩;simp only[dN]at f;obtain⟨Y,I,g,d,e⟩:=f i;have c:k6 4 (G 58)=false:=P8;show Bk sp [a,58];refine⟨?_,?_,?_,?_⟩
  ·rw[gw,j0 Y,gw,j0 c];rfl
  ·intro y hy
   simp only[aK,cV,or_false]at hy;rcases hy with rfl|rfl
   ·unfold lS;simp[I,g]
   cases sp <;>rfl
  ·unfold kC;rw[kf d e];rfl
  unfold jC;rw[kf d e]
theorem kh{aJ:O}{p:List O}{x:O}(h:x∈cE aJ p):x∈p:=by
 match p,h with
 | [],h=>cases h
 | [y],h =>
  unfold cE at h;dsimp only at h
  split at h
  ·exact h
  cases h
 |y::z::r,h=>exact nI _ h
theorem DF{aJ:O}{sp:Bool}{out:List O}{p:O}{last:Bool}(c:∀x∈out,Bk sp x)(hp:∀y∈p,lS sp y=false):∀x∈kT aJ out p last,Bk sp x:=by
 have app:∀(l:List O) (q:O),(∀x∈l,Bk sp x)->Bk sp q->∀x∈l++[q],Bk sp x:=by
  intro l q g h x X;rcases bO.mp X with X|X
  ·exact g x X
  rw[dS.mp X];exact h
 have e:∀x∈cE aJ out,Bk sp x:=λx X=>c x (kh X);unfold kT
 split
 ·split
  ·exact app _ _ e (Jw sp)
  exact e
 next d =>
 split
 ·split
  ·exact app _ _ c (Jw sp)
  exact c
 next hd =>
 split
 ·next f=>exact app _ _ c (KJ f.2.2)
 exact app _ _ c (a0C hp (by simpa using hd) (by simpa using d))
theorem y5{aJ:O}{sp:Bool}:∀(e out:List O),(∀x∈out,Bk sp x)->(∀p∈e,∀y∈p,lS sp y=false)->∀x∈kH aJ out e,Bk sp x
 | [],out,c,_=>c
 | [p],out,c,hp=>DF c (hp p Oc)
 |p::q::r,out,c,hp=>y5 (q::r) _ (DF c (hp p Oc)) (λz d=>hp z (by simp only[aK]at d⊢;exact .inr d))
theorem JC{sp:Bool}:∀s:O,∀p∈gE sp s,∀y∈p,lS sp y=false
 | [],p,h,y,hy=>by
  have:p=[]:=by simpa[gE]using h
  subst this;cases hy
 |c::t,p,h,y,hy=>by
  have d:=JC (sp:=sp) t;rw[gE]at h
  split at h
  ·rcases aK.mp h with rfl|h
   ·cases hy
   exact d p h y hy
  next e =>
  obtain⟨q,qs,f⟩:=uD sp t;rw[f]at h d;rcases aK.mp h with rfl|h
  ·rcases aK.mp hy with rfl|hy
   ·simpa using e
   exact d q Oc y hy
  exact d p (by simp[h]) y hy
theorem iG{aJ:O}{path:List O}{s:O}(h:∀x∈path,Bk (eU aJ) x):∀x∈da aJ path s,Bk (eU aJ) x :=
 y5 _ _ h (JC s)
theorem Wd{aJ:O}{out:List O}{p:O}:kT aJ out p true ≠ []:=by
 unfold kT
 split
 ·rw[ge rfl];simp
 split
 ·rw[ge rfl];simp
 split <;>simp
theorem DD{aJ:O}:∀(c out:List O),c ≠ []->kH aJ out c ≠ []
 | [],_,h=>absurd rfl h
 | [p],out,_=>Wd
 |p::q::r,out,_=>DD (q::r) _ Oc
theorem j6{aJ:O}{path:List O}{s:O}:da aJ path s ≠ []:=by
 unfold da;refine DD _ _ ?_;obtain⟨p,ps,h⟩:=uD (eU aJ) s;rw[h];simp
theorem a8W{p:O}(h:jN p=true):p.take 1++[58]=p:=by
 match p,h with
 | [a,b],h =>
  unfold jN at h;rw[f8,beq_iff_eq]at h;rw[h.2];rfl
theorem a6X{aJ:O}{out:List O}{p:O}(hp:Bk (eU aJ) p)(hd:aJ=aR->out=[]->dJ p=true->jN p=true)(last:Bool):kT aJ out p last=out++[p]:=by
 unfold kT;rw[gc (by rw[hp.dd];simp),gc (by rw[hp.d];simp)]
 split
 ·next h=>rw[a8W (hd h.1 h.2.1 h.2.2)]
 rw[hp.e]
theorem a5f{aJ:O}:∀(c out:List O),(∀x∈c,Bk (eU aJ) x)->(∀p,c.head? = some p->aJ=aR->out=[]->dJ p=true->jN p=true)->kH aJ out c=out++c
 | [],out,_,_=>by rw[kH,aV]
 | [p],out,hp,hd=>by rw[kH,a6X (hp p Oc) (hd p rfl)]
 |p::q::r,out,hp,hd=>by
  rw[kH,a6X (hp p Oc) (hd p rfl),a5f (q::r) _ (λx X=>hp x (by simp only[aK]at X⊢;exact .inr X)) (λ_ _ _ h=>absurd h Oc),bB];rfl
theorem a6W{aJ:O}{p:O}{d:List O}(hp:∀x∈p::d,Bk (eU aJ) x)(hd:aJ=aR->dJ p=true->jN p=true):da aJ [] (p++cH d)=p::d:=by
 unfold da;rw[a56 p d (λq c=>(hp q c).s),a5f _ _ hp (λq c Y _=>by injection c with c;rw[<-c];exact hd Y),f9]

def gC(aJ:O)(out:List O):Prop:=aJ=aR->∀p,out.head? = some p->dJ p=true->jN p=true
theorem X0(set:Int):∀l:O,l.length<=(dD set l).length
 | []=>aL _
 |c::t=>by
  have:=X0 set t;rw[gw,ae,cz];have:1<=(xq set c).length:=by unfold xq;split <;>simp
  omega
theorem OR{p:O}(h:dJ (dD 4 p)=true):dJ p=true:=by
 cases p with
 |nil=>exact h
 |cons a t =>
  rw[gw]at h;cases d:k6 4 (G a)with
  |true =>
   rw[wk d]at h;cases g:dD 4 t with
   |nil=>rw[g]at h;cases h
   |cons x r=>rw[g]at h;cases h
  |false =>
   rw[j0 d]at h;cases t with
   |nil=>cases h
   |cons b t2 =>
    rw[gw]at h;cases U:k6 4 (G b)with
    |true =>
     rw[wk U]at h;cases h
    |false =>
     rw[j0 U]at h;cases t2 with
     |nil=>exact h
     |cons c t3 =>
      have f:=X0 4 (c::t3);cases e:dD 4 (c::t3)with
      |nil=>rw[e]at f;simp at f
      |cons x r=>rw[e]at h;cases h
theorem oO{aJ:O}{out:List O}{q:O}(h:gC aJ out)(d:aJ=aR->out=[]->dJ q=true->jN q=true):gC aJ (out++[q]):=by
 intro c p hp hd;cases out with
 |nil =>
  injection hp with hp
  subst hp;exact d c rfl hd
 |cons x r =>
  rw[dE]at hp;exact h c p hp hd
theorem kZ{aJ:O}{out:List O}(h:gC aJ out):gC aJ (cE aJ out):=by
 match out,h with
 | [],h=>exact h
 | [y],h =>
  unfold cE;dsimp only
  split
  ·exact h
  intro _ p hp;cases hp
 |y::z::r,h =>
  intro c p hp hd;refine h c p ?_ hd;have e:cE aJ (y::z::r)=y::(z::r).dropLast:=rfl;rw[e]at hp;exact hp
theorem wI{aJ:O}{out:List O}{p:O}{last:Bool}(h:gC aJ out):gC aJ (kT aJ out p last):=by
 unfold kT
 split
 ·split
  ·exact oO (kZ h) (λ_ _ hd=>by cases hd)
  exact kZ h
 split
 ·split
  ·exact oO h (λ_ _ hd=>by cases hd)
  exact h
 split
 ·next c =>
  refine oO h (λ_ _ _=>?_);have hd:=c.2.2
  match p,hd with
  | [a,b],hd =>
   unfold dJ at hd;rw[f8]at hd;show jN [a,58]=true;show(iQ (G a)&&(58:UInt8)==58)=true;rw[hd.1];rfl
 next c=>exact oO h (λe d hd=>absurd ⟨e,d,OR hd⟩ c)
theorem tJ{aJ:O}:∀(c out:List O),gC aJ out->gC aJ (kH aJ out c)
 | [],_,h=>h
 | [_],_,h=>wI h
 |_::q::r,_,h=>tJ (q::r) _ (wI h)
theorem fu{aJ:O}{path:List O}{s:O}(h:gC aJ path):gC aJ (da aJ path s):=tJ _ _ h

def xU(s:O):Prop:=wH s=true/\s.map dK=s
theorem LF:∀k:Fin 256,pr (G (UInt8.ofNat k.val))=true->pr (G (dK (UInt8.ofNat k.val)))=true/\(iQ (G (UInt8.ofNat k.val))=true->iQ (G (dK (UInt8.ofNat k.val)))=true)/\dK (dK (UInt8.ofNat k.val))=dK (UInt8.ofNat k.val)/\UInt8.ofNat k.val≠58/\UInt8.ofNat k.val≠35/\UInt8.ofNat k.val≠63/\32<G (UInt8.ofNat k.val)/\G (UInt8.ofNat k.val)<=126:=by decide +kernel
theorem Gr{c:UInt8}(h:pr (G c)=true):pr (G (dK c))=true/\(iQ (G c)=true->iQ (G (dK c))=true)/\dK (dK c)=dK c/\c≠58/\c≠35/\c≠63/\32<G c/\G c<=126:=by
 have:=LF ⟨c.toNat,c.toNat_lt⟩;simp only[dN]at this;exact this h
theorem Wb{s:O}(h:wH s=true):∀y∈s,pr (G y)=true:=by
 cases s with
 |nil=>cases h
 |cons c t =>
  unfold wH at h;rw[f8]at h;intro y hy;rcases aK.mp hy with rfl|hy
  ·unfold pr;rw[h.1];rfl
  exact dl.mp h.2 y hy
theorem Wc{s:O}(h:wH s=true):xU (s.map dK):=by
 have d:=Wb h;refine⟨?_,?_⟩
 ·cases s with
  |nil=>cases h
  |cons c t =>
   unfold wH at h;rw[f8]at h;show(iQ (G (dK c))&&(t.map dK).all λy=>pr (G y))=true;rw[f8];refine⟨(Gr (d c Oc)).2.1 h.1,dl.mpr λy hy=>?_⟩;obtain⟨x,X,rfl⟩:=dt.mp hy;exact(Gr (d x (by simp[X]))).1
 rw[lu];refine jJ λx X=>?_;exact(Gr (d x X)).2.2.1
theorem b3t{s:O}(h:wH s=true):(58:UInt8)∉s/\(35:UInt8)∉s/\(63:UInt8)∉s:=by
 have c:=Wb h;refine⟨λhm=>?_,λhm=>?_,λhm=>?_⟩
 ·exact(Gr (c _ hm)).2.2.2.1 rfl
 ·exact(Gr (c _ hm)).2.2.2.2.1 rfl
 exact(Gr (c _ hm)).2.2.2.2.2.1 rfl
theorem b12{aJ rest q f:O}{c d:Bool}(h:xU aJ)(Y:(35:UInt8)∉rest/\(63:UInt8)∉rest)(I:(35:UInt8)∉q)(m:c=false->q=[])(n:d=false->f=[]) :
  fw (aJ++[58]++rest++(if c=true then 63::q else [])++(if d=true then 35::f else []))=⟨true,aJ,rest,c,q,d,f⟩:=by
 obtain⟨p,i,n3⟩:=b3t h.1
 have hA:(35:UInt8)∉aJ++[58]++rest++(if c=true then 63::q else []):=by
  cases c
  ·simp[i,Y.1]
  simp[i,Y.1,I]
 have g:(63:UInt8)∉aJ++[58]++rest:=by simp[n3,Y.2]
 have j:bQ 35 (aJ++[58]++rest++(if c=true then 63::q else [])++(if d=true then 35::f else []))=(aJ++[58]++rest++(if c=true then 63::q else []),f,d):=by
  generalize aJ++[58]++rest++(if c=true then 63::q else [])=e at hA;cases d
  ·show bQ 35 (e++[])=_
   rw[aV,yk hA,n rfl]
  exact Fj _ _ hA
 have k:bQ 63 (aJ++[58]++rest++(if c=true then 63::q else []))=(aJ++[58]++rest,q,c):=by
  generalize aJ++[58]++rest=e at g;cases c
  ·show bQ 63 (e++[])=_
   rw[aV,yk g,m rfl]
  exact Fj _ _ g
 have l:bQ 58 (aJ++[58]++rest)=(aJ,rest,true):=by
  rw[bB,a4p,Fj _ _ p]
 unfold fw;simp only[j,k,l];rw[ge ⟨by trivial,h.1⟩,h.2]

theorem a9c{sp:Bool}{a t:O}(g:∀y∈a,lS sp y=false)(h:t=[]\/∃r,t=47::r):dU sp (a++t)=(a,t):=by
 unfold dU;have Y:∀y∈a,(!lS sp y)=true:=λy hy=>by rw[g y hy];rfl
 rcases h with rfl|⟨r,rfl⟩
 ·have d:=a34 (p:=λc=>!lS sp c) (l₁:=a) (l₂:=[]) Y
  have f:=a3Y (p:=λc=>!lS sp c) (l₁:=a) (l₂:=[]) Y;rw[d,f];simp
 have e:(!lS sp 47)=false:=rfl;rw[a34 Y,a3Y Y,bI (by simp[e]),aX (by simp[e]),aV]
theorem a6o(l:List O):cH l=[]\/∃r,cH l=47::r:=by
 cases l with
 |nil=>exact .inl rfl
 |cons p r=>exact .inr ⟨p++cH r,by simp[cH]⟩
theorem b0M{l:List O}:cH l=[] ↔ l=[]:=by
 cases l with
 |nil=>simp[cH]
 |cons p r=>simp[cH]
theorem a6p{aJ:O}{l:List O}(hp:∀x∈l,Bk (eU aJ) x)(hd:gC aJ l)(d:l ≠ []):gW aJ (cH l)=l:=by
 cases l with
 |nil=>exact absurd rfl d
 |cons p r =>
  have e:cH (p::r)=47::(p++cH r):=by simp[cH]
  unfold gW
  have c:0<uE (eU aJ) (47::(p++cH r)):=by
   unfold uE;rw[bJ r5];simp
  rw[e,ge c];show da aJ [] (p++cH r)=_;exact a6W hp (λY I=>hd Y p rfl I)

def Enc(set:Int):Prop:=∀k:Fin 256,(xq set (UInt8.ofNat k.val)).all (λy=>!k6 set (G y)&&decide (32<G y/\G y<=126))=true
theorem enc1:Enc 1:=by unfold Enc;decide +kernel
theorem enc2:Enc 2:=by unfold Enc;decide +kernel
theorem enc3:Enc 3:=by unfold Enc;decide +kernel
theorem enc4:Enc 4:=by unfold Enc;decide +kernel
theorem b3P:Enc 5:=by unfold Enc;decide +kernel
theorem Zr{set:Int}(h:Enc set){l:O}:∀y∈dD set l,k6 set (G y)=false/\32<G y/\G y<=126:=by
 intro y hy;obtain⟨x,_,hy⟩:=S8.mp hy;have c:=h ⟨x.toNat,x.toNat_lt⟩;simp only[dN]at c;have:=dl.mp c y hy
 simpa using this
theorem vj{set:Int}(h:Enc set)(l:O):dD set (dD set l)=dD set l:=Az λy hy=>(Zr h y hy).1
def Wh(aJ:O):Int:=if eU aJ=true then 3 else 2
theorem Sb(aJ:O):Enc (Wh aJ):=by
 unfold Wh
 split
 ·exact enc3
 exact enc2
def jd(c:UInt8):Bool:=decide (G c<=32)
def rc(c:UInt8):Bool:=!(c==9||c==10||c==13)
theorem Q5{c:UInt8}(h:rc c=false):jd c=true:=by
 unfold rc at h;simp only[Bool.not_eq_false',kj,beq_iff_eq]at h;rcases h with(rfl|rfl)|rfl <;>decide
theorem kY:∀s:O,(s.filter rc).dropWhile jd=(s.dropWhile jd).filter rc
 | []=>rfl
 |c::t=>by
  cases hp:jd c with
  |true =>
   rw[aQ hp];cases d:rc c with
   |true=>rw[aU d,aQ hp,kY t]
   |false=>rw[aZ (by simp[d]),kY t]
  |false =>
   have d:rc c=true:=by
    cases h:rc c with
    |true=>rfl
    |false=>rw[Q5 h]at hp;cases hp
   rw[aX (by simp[hp]),aU d,aX (by simp[hp])]
theorem Ou(s:O):eN s=trimF (iI s):=by
 show(((s.dropWhile jd).reverse.dropWhile jd).reverse).filter rc=(((s.filter rc).dropWhile jd).reverse.dropWhile jd).reverse;rw[kY,<-List.filter_reverse,kY,List.filter_reverse]
theorem Ft(p:UInt8->Bool)(l:O):∀x,(l.dropWhile p).head? = some x->p x=false:=by
 induction l with
 |nil=>intro x h;cases h
 |cons c t d =>
  intro x h;cases hp:p c with
  |true=>rw[aQ hp]at h;exact d x h
  |false =>
   rw[aX (by simp[hp])]at h;injection h with h
   rw[<-h];exact hp
theorem jW(p:UInt8->Bool)(l:O):∃a,l=a++l.dropWhile p:=⟨l.takeWhile p,(ez).symm⟩
theorem MH(s:O):∀x,(trimF s).getLast? = some x->¬G x<=32:=by
 intro x h;unfold trimF at h;rw[List.getLast?_reverse]at h;have:=Ft _ _ x h
 simpa using this
theorem b7Z(s:O):∀x,(eN s).getLast? = some x->¬G x<=32:=by rw[Ou];exact MH _
structure sX (p:kW):Prop where
 s:p.gR=true->xU p.aJ
 q:p.bZ=false->p.q=[]
 f:p.cg=false->p.f=[]
 r:(35:UInt8)∉p.rest/\(63:UInt8)∉p.rest
 e:p.bZ=false->p.cg=false->p.rest.getLast? ≠ some 32
theorem uX{c y:UInt8}{s:O}(h:y∈(bQ c s).1\/y∈(bQ c s).2.1):y∈s:=by
 rw[mn c s];rcases h with h|h
 ·exact b5u _ h
 by_cases d:(bQ c s).2.2=true
 ·rw[ge d];exact b3X _ (cN _ h)
 rw[gm c s (by simpa using d)]at h;cases h
theorem b7C{c:UInt8}{s:O}(h:(bQ c s).2.2=false):(bQ c s).1=s:=by
 have:=mn c s;rw[gc (by simp[h]),aV]at this;exact this.symm
theorem Se(c:O)(g:∀x,c.getLast? = some x->¬G x<=32):sX (fw c):=by
 have i:=zV 35 c;have j:=zV 63 (bQ 35 c).1;have key:(bQ 35 c).2.2=false->(bQ 63 (bQ 35 c).1).2.2=false->(bQ 63 (bQ 35 c).1).1=c:=λY I=>(b7C I).trans (b7C Y);have hm:∀y,y∈(bQ 63 (bQ 35 c).1).1->y∈(bQ 35 c).1:=λy hy=>uX (.inl hy);have U:=mn 58 (bQ 63 (bQ 35 c).1).1;unfold fw;dsimp only
 split
 ·next f =>
  refine⟨λ_=>Wc f.2,gm 63 _,gm 35 _,⟨λh=>i (hm _ (uX (.inr h))),λh=>j (uX (.inr h))⟩,λY I d=>?_⟩;have e:=key I Y;rw[ge f.1]at U
  have:c.getLast? = some 32:=by
   rw[<-e,U,Bh,List.getLast?_cons];rw[d];rfl
  exact g _ this P8
 refine⟨λh=>(by cases h),gm 63 _,gm 35 _,⟨λh=>i (hm _ h),j⟩,λY I d=>?_⟩;have e:=key I Y;rw[e]at d;exact g _ d P8
theorem Ru(s:O):sX (fw (eN s)):=Se _ (b7Z s)
def QQ:O:=[108,111,99,97,108,104,111,115,116]
def Ie(u:Url):qj:=⟨u.usr,u.ib,u.host,u.bz,u.port⟩
structure xT (v:Url):Prop where
 u:v.usr=[]
 p:v.ib=[]
 h:v.bz=false
 n:v.port=0
inductive Body (u:Url):Prop where
 |opq (Y:u.opq=true) (I:eU u.aJ=false) (h3:u.host=H0) (h4:u.path=[]) (h5:xT u) (h7:dD 0 u.flat=u.flat) (h8:u.flat.head? ≠ some 47) (h9:u.flat.getLast? ≠ some 32) (h10:(35:UInt8)∉u.flat/\(63:UInt8)∉u.flat)
 |none (Y:u.opq=false) (I:eU u.aJ=false) (h3:u.host=H0) (h5:xT u) (hp:u.path ≠ [])
 |file (Y:u.opq=false) (hs:u.aJ=aR) (h3:u.host={H0 with kind:=1}\/∃n,n ≠ []/\fm n true=some u.host/\¬(u.host.kind=2/\u.host.name=QQ)) (h5:xT u) (hp:u.path ≠ [])
 |asked (Y:u.opq=false) (hs:u.aJ≠aR) (ha:X6 u.aJ (Ie u)) (hp:eU u.aJ=true->u.path ≠ [])
structure Good (u:Url):Prop where
 aJ:xU u.aJ
 q:u.bZ=false->u.q=[]
 qe:dD (Wh u.aJ) u.q=u.q
 f:u.cg=false->u.f=[]
 fe:dD 1 u.f=u.f
 pc:∀x∈u.path,Bk (eU u.aJ) x
 fi:gC u.aJ u.path
 fl:u.opq=false->u.flat=[]
 body:Body u
structure HdU (aJ:O) (u:Url):Prop where
 q:u.bZ=false->u.q=[]
 qe:dD (Wh aJ) u.q=u.q
 f:u.cg=false->u.f=[]
 fe:dD 1 u.f=u.f
theorem qS{p:kW}(hp:sX p)(aJ:O):HdU aJ (dp aJ p):=by
 refine⟨λh=>?_,?_,λh=>?_,?_⟩
 ·show dD _ p.q=[]
  rw[hp.q h];rfl
 ·exact vj (Sb aJ) p.q
 ·show dD 1 p.f=[]
  rw[hp.f h];rfl
 exact vj enc1 p.f
theorem gp(aJ:O):gC aJ []:=λ_ _ h=>(by cases h)
theorem oU{aJ s:O}:∀x∈gW aJ s,Bk (eU aJ) x:=iG (λ_ h=>(by cases h))
theorem k8{aJ s:O}:gC aJ (gW aJ s):=fu (gp aJ)
theorem re{aJ s:O}:gW aJ s ≠ []:=j6
theorem qx{aJ s:O}{p:kW}{u:Url}(hp:sX p)(i:xU aJ)(g:aJ≠aR)(h:jS (dp aJ p) s=some u):Good u:=by
 have hd:=qS hp aJ;unfold jS at h;dsimp only at h;have e0:(dp aJ p).aJ=aJ:=rfl;rw[e0]at h;cases d:kr aJ (dU (eU aJ) s).1 with
 |none=>rw[d]at h;cases h
 |some a =>
  rw[d]at h;injection h with h
  have c:=Ih d;by_cases e:eU aJ=true\/(dU (eU aJ) s).2 ≠ []
  ·rw[ge e]at h
   subst h;exact⟨i,hd.q,hd.qe,hd.f,hd.fe,oU,k8,λ_=>rfl,.asked rfl g c (λ_=>re)⟩
  rw[gc e]at h;subst h;refine⟨i,hd.q,hd.qe,hd.f,hd.fe,λ_ h=>(by cases h),gp _,λ_=>rfl,.asked rfl g c (λh=>absurd (.inl h) e)⟩
theorem vn:eU aR=true:=P8
theorem Pf:xU aR:=by constructor <;>decide
structure Nr (u:Url):Prop where
 h3:u.host={H0 with kind:=1}\/∃n,n ≠ []/\fm n true=some u.host/\¬(u.host.kind=2/\u.host.name=QQ)
 h5:xT u
theorem fR{u:Url}(hd:HdU aR u)(e:u.aJ=aR)(Y:u.opq=false)(d:u.flat=[])(ok:Nr u)(h:∀x∈u.path,Bk (eU aR) x)(c:gC aR u.path)(g:u.path ≠ []):Good u :=
 ⟨by rw[e];exact Pf,hd.q,by rw[e];exact hd.qe,hd.f,hd.fe,by rw[e];exact h,by rw[e];exact c,λ_=>d,.file Y e ok.h3 ok.h5 g⟩
theorem Gv{u0 u:Url}{s:O}(hd:HdU aR u0)(e:u0.aJ=aR)(Y:u0.opq=false)(c:u0.flat=[])(hw:xT u0)(hh:u0.host={H0 with kind:=1})(h:iy u0 s=some u):Good u:=by
 have hd2:HdU aR u0:=hd;unfold iy at h;dsimp only at h;rw[e]at h
 split at h
 ·injection h with h
  subst h;exact fR ⟨hd.q,hd.qe,hd.f,hd.fe⟩ rfl Y c ⟨.inl hh,⟨hw.u,hw.p,hw.h,hw.n⟩⟩ (iG (λ_ h=>(by cases h))) (fu (gp _)) j6
 split at h
 ·injection h with h
  subst h;exact fR ⟨hd.q,hd.qe,hd.f,hd.fe⟩ rfl Y c ⟨.inl hh,⟨hw.u,hw.p,hw.h,hw.n⟩⟩ oU k8 re
 next j =>
 cases d:fm (dU true s).1 true with
 |none=>rw[d]at h;cases h
 |some g =>
  rw[d]at h;injection h with h
  by_cases i:g.kind=2/\g.name=[108,111,99,97,108,104,111,115,116]
  ·rw[ge i]at h
   subst h;exact fR ⟨hd.q,hd.qe,hd.f,hd.fe⟩ rfl Y c ⟨.inl hh,⟨hw.u,hw.p,hw.h,hw.n⟩⟩ oU k8 re
  rw[gc i]at h;subst h;exact fR ⟨hd.q,hd.qe,hd.f,hd.fe⟩ rfl Y c ⟨.inr ⟨_,j,d,i⟩,⟨hw.u,hw.p,hw.h,hw.n⟩⟩ oU k8 re
theorem CG{b:Url}(U:Good b)(e:b.aJ=aR):Nr b/\b.path ≠ []:=by
 cases U.body with
 |opq Y I=>rw[e,vn]at I;cases I
 |none Y I=>rw[e,vn]at I;cases I
 |file Y c d f hp=>exact⟨⟨d,f⟩,hp⟩
 |asked Y c=>exact absurd e c
theorem ra{sp:Bool}:∀x∈([]:List O),Bk sp x:=λ_ h=>(by cases h)
theorem Vo(c:Prop) [Decidable c] {l:List O} {x:O} (h:x∈if c then l.take 1 else []):x∈l:=by
 by_cases d:c
 ·rw[ge d]at h;exact Bj h
 rw[gc d]at h;cases h
theorem Ql(c:Prop) [Decidable c] {aJ:O} {l:List O} (h:gC aJ l):gC aJ (if c then l.take 1 else []):=by
 by_cases d:c
 ·rw[ge d]
  intro Y q e;cases l with
  |nil=>cases e
  |cons y r=>exact h Y q e
 rw[gc d];exact gp aJ
theorem KW{b:Url}{p:kW}{u:Url}(hp:sX p)(U:b.aJ=aR->Good b)(h:lG b p=some u):Good u:=by
 have hd:=qS hp aR;unfold lG at h;dsimp only at h;have hw0:xT (dp aR p):=⟨rfl,rfl,rfl,rfl⟩
 split at h
 ·exact Gv (u0:={dp aR p with host:={H0 with kind:=1}}) ⟨hd.q,hd.qe,hd.f,hd.fe⟩ rfl rfl rfl ⟨rfl,rfl,rfl,rfl⟩ rfl h
 by_cases g:b.aJ=aR
 ·have i:=U g
  obtain⟨⟨e,ok5⟩,j⟩:=CG i g;have d:=i.pc;have c:=i.fi;rw[g]at d c;simp only[g,decide_true,if_true,true_and]at h
  split at h
  ·injection h with h
   subst h;exact fR ⟨hd.q,hd.qe,hd.f,hd.fe⟩ rfl rfl rfl ⟨e,⟨rfl,rfl,rfl,rfl⟩⟩ (iG λx X=>d x (Vo _ X)) (fu (Ql _ c)) j6
  split at h
  ·injection h with h
   subst h;unfold fM
   split
   ·next hq=>exact fR ⟨hd.q,hd.qe,hd.f,hd.fe⟩ rfl rfl rfl ⟨e,⟨rfl,rfl,rfl,rfl⟩⟩ d c j
   exact fR ⟨i.q,by have:=i.qe;rw[g]at this;exact this,hd.f,hd.fe⟩ rfl rfl rfl ⟨e,⟨rfl,rfl,rfl,rfl⟩⟩ d c j
  split at h
  ·injection h with h
   subst h;exact fR ⟨hd.q,hd.qe,hd.f,hd.fe⟩ rfl rfl rfl ⟨e,⟨rfl,rfl,rfl,rfl⟩⟩ (iG λx X=>d x (kh X)) (fu (kZ c)) j6
  injection h with h
  subst h;exact fR ⟨hd.q,hd.qe,hd.f,hd.fe⟩ rfl rfl rfl ⟨e,⟨rfl,rfl,rfl,rfl⟩⟩ (iG ra) (fu (gp _)) j6
 simp only[g,decide_false,false_and,if_false,eH]at h
 split at h <;>
 ·injection h with h
  subst h;exact fR ⟨hd.q,hd.qe,hd.f,hd.fe⟩ rfl rfl rfl ⟨.inl rfl,⟨rfl,rfl,rfl,rfl⟩⟩ (iG ra) (fu (gp _)) j6

theorem LW:∀k:Fin 256,(xq 0 (UInt8.ofNat k.val)).all (λy=>!k6 0 (G y)&&(y==UInt8.ofNat k.val||y==37||(decide (48<=G y/\G y<=57)||decide (65<=G y/\G y<=70))))=true:=by decide +kernel
theorem Ay{l:O}{y:UInt8}(h:y∈dD 0 l):k6 0 (G y)=false/\(y∈l\/y=37\/(48<=G y/\G y<=57)\/(65<=G y/\G y<=70)):=by
 obtain⟨x,X,hy⟩:=S8.mp h;have c:=LW ⟨x.toNat,x.toNat_lt⟩;simp only[dN]at c;have:=dl.mp c y hy;simp only[f8,kj,a3W,beq_iff_eq,gx]at this;obtain⟨Y,I⟩:=this;refine⟨Y,?_⟩;rcases I with(I|I)|I|I
 ·exact .inl (I▸X)
 ·exact .inr (.inl I)
 ·exact .inr (.inr (.inl I))
 exact .inr (.inr (.inr I))
theorem a0A{l:O}{c:UInt8}(d:c≠37/\¬(48<=G c/\G c<=57)/\¬(65<=G c/\G c<=70))(h:c∉l):c∉dD 0 l:=λhm=>by
 rcases(Ay hm).2 with Y|Y|Y|Y
 ·exact h Y
 ·exact d.1 Y
 ·exact d.2.1 Y
 exact d.2.2 Y
theorem Rk{l:O}(h:l.head? ≠ some 47):(dD 0 l).head? ≠ some 47:=by
 cases l with
 |nil=>exact h
 |cons c t =>
  rw[gw];unfold xq
  split
  ·simp
  simpa using h
def lf(fl:O)(x:Bool):O:=if x=true/\fl.getLast? = some 32 then fl.dropLast++[37,50,48]else fl
theorem Rl{l:O}(h:l.getLast? ≠ some 32):(dD 0 l).getLast? ≠ some 32:=by
 cases f:l.getLast? with
 |none =>
  have:l=[]:=List.getLast?_eq_none_iff.mp f;subst this;simp[dD]
 |some c =>
  obtain⟨r,rfl⟩:=a2Q.mp f;have e:dD 0 (r++[c])=dD 0 r++xq 0 c:=by unfold dD;simp
  rw[e];have key:∀k:Fin 256,UInt8.ofNat k.val≠32->(xq 0 (UInt8.ofNat k.val)).getLast?.isSome=true/\(xq 0 (UInt8.ofNat k.val)).getLast? ≠ some 32:=by decide +kernel
  have d:=key ⟨c.toNat,c.toNat_lt⟩;simp only[dN]at d;have d:=d (λe=>h (by rw[f,e]));obtain⟨y,hy⟩:=a6t.mp d.1;rw[Bh,hy];intro I
  apply d.2
  rw[hy]
  simpa using I
theorem Ob(c:O)(a b:Bool):(if(a=true\/b=true)/\c.getLast? = some 32 then c.dropLast++[37,50,48]else c)=lf c (a||b):=by
 unfold lf;simp only[kj]
theorem GA{p:kW}{u:Url}(hp:sX p)(z:xU p.aJ)(g:eU p.aJ=false)(h:gi p=some u):Good u:=by
 have hd:=qS hp p.aJ;have v:p.aJ≠aR:=λe=>by rw[e,vn]at g;cases g
 unfold gi at h;dsimp only at h
 split at h
 ·exact qx hp z v h
 ·injection h with h
  subst h;exact⟨z,hd.q,hd.qe,hd.f,hd.fe,iG ra,fu (gp _),λ_=>rfl,.none rfl g rfl ⟨rfl,rfl,rfl,rfl⟩ j6⟩
 next n1 C =>
 rw[Ob]at h;injection h with h
 subst h
 have l:p.rest.head? ≠ some 47:=by
  intro e;cases x:p.rest with
  |nil=>rw[x]at e;cases e
  |cons c t =>
   rw[x]at e;injection e with e
   subst e;exact C t x
 have hmem:∀c:UInt8,c≠37/\¬(48<=G c/\G c<=57)/\¬(65<=G c/\G c<=70)->c∉p.rest->c∉lf (dD 0 p.rest) (p.bZ||p.cg):=by
  intro c k s hm;have i:=a0A k s;unfold lf at hm
  split at hm
  ·rcases bO.mp hm with hm|hm
   ·exact i (nI _ hm)
   simp only[aK,cV,or_false]at hm;rcases hm with rfl|rfl|rfl
   ·exact k.1 rfl
   ·exact k.2.1 P8
   exact k.2.1 P8
  exact i hm
 have hall:∀y∈lf (dD 0 p.rest) (p.bZ||p.cg),k6 0 (G y)=false:=by
  intro y hy;unfold lf at hy
  split at hy
  ·rcases bO.mp hy with hy|hy
   ·exact(Ay (nI _ hy)).1
   simp only[aK,cV,or_false]at hy;rcases hy with rfl|rfl|rfl <;>decide
  exact(Ay hy).1
 have m:(lf (dD 0 p.rest) (p.bZ||p.cg)).head? ≠ some 47:=by
  have i:=Rk l;unfold lf
  split
  ·intro e
   cases hd:(dD 0 p.rest).dropLast with
   |nil=>rw[hd]at e;simp at e
   |cons c t =>
    rw[hd]at e
    apply i
    cases B:dD 0 p.rest with
    |nil=>rw[B]at hd;cases hd
    |cons c2 t2 =>
     rw[B]at hd;cases t2 with
     |nil=>cases hd
     |cons d r =>
      injection hd with Y I
      rw[Y];exact e
  exact i
 have n:(lf (dD 0 p.rest) (p.bZ||p.cg)).getLast? ≠ some 32:=by
  unfold lf
  split
  ·rw[Bh];simp
  next s =>
  intro e;cases j:(p.bZ||p.cg)with
  |true=>exact s ⟨j,e⟩
  |false =>
   rw[Bc]at j;exact Rl (hp.e j.1 j.2) e
 exact⟨z,hd.q,hd.qe,hd.f,hd.fe,ra,gp _,λh=>(by cases h),.opq rfl g rfl rfl ⟨rfl,rfl,rfl,rfl⟩ (Az hall) m n ⟨hmem 35 P8 hp.r.1,hmem 63 P8 hp.r.2⟩⟩
theorem K0{b:Url}{p:kW}{u:Url}(U:Good b)(g:b.opq=true)(h:k5 b p=some u):Good u:=by
 unfold k5 at h
 split at h
 ·cases h
 injection h with h
 subst h
 have e:Body {b with cg:=true,f:=dD 1 p.f}:=by
  cases U.body with
  |opq Y I i j c k l m d=>exact .opq Y I i j ⟨c.u,c.p,c.h,c.n⟩ k l m d
  |none Y=>rw[g]at Y;cases Y
  |file Y=>rw[g]at Y;cases Y
  |asked Y=>rw[g]at Y;cases Y
 exact⟨U.aJ,U.q,U.qe,λh=>(by cases h),vj enc1 p.f,U.pc,U.fi,U.fl,e⟩
theorem oY{b v:Url}(U:Good b)(y:b.opq=false)(g:b.aJ≠aR)(e0:v.aJ=b.aJ)(k:v.usr=b.usr)(l:v.ib=b.ib)(m:v.host=b.host)(q:v.bz=b.bz)(r:v.port=b.port)(s:v.opq=false)(hp:v.path ≠ []\/v.path=b.path):Body v:=by
 have c:b.path ≠ []->v.path ≠ []:=λh=>hp.elim id (λe=>e▸h);have f:Ie v=Ie b:=by unfold Ie;rw[k,l,m,q,r]
 cases U.body with
 |opq Y=>rw[y]at Y;cases Y
 |none Y I t d i=>exact .none s (by rw[e0];exact I) (by rw[m];exact t) ⟨by rw[k];exact d.u,by rw[l];exact d.p,by rw[q];exact d.h,by rw[r];exact d.n⟩ (c i)
 |file Y j=>exact absurd j g
 |asked Y j x i=>exact .asked s (by rw[e0];exact j) (by rw[f,e0];exact x) (λh=>c (i (by rw[<-e0];exact h)))
theorem RL{b:Url}{p:kW}{u:Url}(U:Good b)(hp:sX p)(d:b.opq=false)(c:b.aJ≠aR)(h:ri b p=some u):Good u:=by
 have hd:=qS hp b.aJ;unfold ri at h;dsimp only at h
 split at h
 ·exact qx hp U.aJ c h
 split at h
 ·exact qx hp U.aJ c h
 split at h
 ·injection h with h
  subst h;exact⟨U.aJ,hd.q,hd.qe,hd.f,hd.fe,iG ra,fu (gp _),λ_=>rfl,oY U d c rfl rfl rfl rfl rfl rfl rfl (.inl j6)⟩
 split at h
 ·injection h with h
  subst h;unfold fM
  split
  ·exact⟨U.aJ,hd.q,hd.qe,hd.f,hd.fe,U.pc,U.fi,λ_=>rfl,oY U d c rfl rfl rfl rfl rfl rfl rfl (.inr rfl)⟩
  exact⟨U.aJ,U.q,U.qe,hd.f,hd.fe,U.pc,U.fi,λ_=>rfl,oY U d c rfl rfl rfl rfl rfl rfl rfl (.inr rfl)⟩
 injection h with h
 subst h;exact⟨U.aJ,hd.q,hd.qe,hd.f,hd.fe,iG (λx X=>U.pc x (kh X)),fu (kZ U.fi),λ_=>rfl,oY U d c rfl rfl rfl rfl rfl rfl rfl (.inl j6)⟩
theorem yF{b:Url}{p:kW}{u:Url}(U:Good b\/(b=U0/\p.gR=true))(hp:sX p)(h:eL b p=some u):Good u:=by
 have hU:¬Good b->p.gR=true:=λm=>U.elim (λg=>absurd g m) (λe=>e.2);unfold eL at h
 split at h
 ·refine KW hp (λe=>?_) h
  rcases U with g|⟨i,_⟩
  ·exact g
  rw[i]at e;cases e
 next Y =>
 split at h
 ·next I=>exact qx hp (hp.s I.1.1) (λe=>Y (.inl ⟨I.1.1,e⟩)) h
 next I =>
 split at h
 ·next d=>exact GA hp (hp.s d.1) (by simpa using d.2) h
 next d =>
 have g:Good b:=by
  rcases U with g|⟨i,k⟩
  ·exact g
  exfalso;by_cases c:eU p.aJ=true
  ·refine I ⟨⟨k,c⟩,.inl (λe=>?_)⟩
   rw[i]at e;rw[e]at c;revert c;decide
  exact d ⟨k,c⟩
 split at h
 ·next j=>exact K0 g j h
 next j =>
 have l:b.opq=false:=by simpa using j
 refine RL g hp l (λe=>?_) h;cases f:p.gR with
 |false=>exact Y (.inr ⟨f,l,e⟩)
 |true =>
  by_cases c:eU p.aJ=true
  ·by_cases he:p.aJ=b.aJ
   ·exact Y (.inl ⟨f,he.trans e⟩)
   exact I ⟨⟨f,c⟩,.inl he⟩
  exact d ⟨f,c⟩
theorem sk{b u:Url}{s:O}(U:Good b)(h:kF b s=some u):Good u:=yF (.inl U) (Ru s) h
theorem kG{u:Url}{s:O}(h:eF s=some u):Good u:=by
 unfold eF at h
 split at h
 ·next c=>exact yF (.inr ⟨rfl,c⟩) (Ru s) h
 cases h

def brI(i:Bool)(c:UInt8):Bool:=if c=91 then true else if c=93 then false else i
def ta:Bool->O->Option Nat
 |_,[]=>none
 |i,c::t=>if c=58/\i=false then some 0 else(ta (brI i c) t).map (·+1)
theorem Xx:∀(i:Bool) (s:O),Ow i s=(ta i s).map λk=>(s.take k,s.drop (k+1))
 |_,[]=>rfl
 |i,c::t=>by
  rw[Ow,ta]
  split
  ·rfl
  rw[show(if c=91 then true else if c=93 then false else i)=brI i c from rfl,Xx (brI i c) t,a1C,a1C];rfl
theorem Is:∀(i:Bool) (s:O) (k:Nat),ta i s=some k->k<s.length
 |_,[],_,h=>by cases h
 |i,c::t,k,h=>by
  rw[ta]at h
  split at h
  ·injection h with h
   subst h;simp
  cases d:ta (brI i c) t with
  |none=>rw[d]at h;cases h
  |some m =>
   rw[d]at h;injection h with h
   have Y:m+1=k:=h;have:=Is _ t m d;rw[cz];omega
theorem Xk{c:UInt8}:G c=58 ↔ c=58:=⟨λh=>eX (h.trans P8),λh=>by rw[h];decide⟩
theorem Xl{c:UInt8}:G c=91 ↔ c=91:=⟨λh=>eX (h.trans P8),λh=>by rw[h];decide⟩
theorem Xm{c:UInt8}:G c=93 ↔ c=93:=⟨λh=>eX (h.trans P8),λh=>by rw[h];decide⟩
theorem Up(i:Bool){l:O}{k:Nat}(h:k<l.length):(ta i (l.drop k)).map (·+k)=if G l[k]=58/\i=false then some k else(ta (if G l[k]=91 then true else if G l[k]=93 then false else i) (l.drop (k+1))).map (·+(k+1)):=by
 have d:brI i l[k]=if G l[k]=91 then true else if G l[k]=93 then false else i:=by
  unfold brI;by_cases Y:l[k]=91
  ·rw[ge Y,ge (Xl.mpr Y)]
  rw[gc Y,gc (λh=>Y (Xl.mp h))];by_cases I:l[k]=93
  ·rw[ge I,ge (Xm.mpr I)]
  rw[gc I,gc (λh=>I (Xm.mp h))]
 rw[aC h,ta,<-d];by_cases c:l[k]=58/\i=false
 ·rw[ge c,ge ⟨Xk.mpr c.1,c.2⟩]
  simp
 rw[gc c,gc (λh=>c ⟨Xk.mp h.1,h.2⟩),a1C]
 congr 1
 funext m
 simp only[Function.comp];omega
def a0F(o:Option Nat):Int:=match o with|some k=>k|none=>-1
theorem Ky(l:O)(w:H)(B:l.length<=1024000000):bP prog 210 #[.string (E l)] w (.int .i64 (a0F (ta false l))):=by
 obtain⟨R,y⟩:=ey (ta false l);rw[<-y.o];obtain⟨s,q⟩:=V (E l);have n:s.size=l.length:=by rw[q,aF]
 have g:∀k (p:k<s.size) (j:k<l.length),((s[k]'p).toNat:Int)=G l[k]:=λk p j=>cy q p j;rw[<-q];clear q;obtain⟨N,x⟩:=V (s.size);have iP:s.size=N:=x.symm;have oP:N<=1024000000:=M0;have C:=F g;clear g;have u:=F n;clear n B x;go_enter func210,ntmps210;go_wp2_with fail
 go_loopw [3,4] (λbv iv wr=>∃(k:Nat) (i:Bool),k<=N/\iv=.int .i64 k/\bv=.bool i/\Hid ((ta i (l.drop k)).map (·+k)=R)/\w=wr) (λ_ i _=>N-(intOf i).toNat)
 exact⟨0,false,M0,Oc,rfl,(by rw[y.o];show(ta false (List.drop 0 l)).map (·+0)=_;simp),rfl⟩
 obtain⟨k,i,p,rfl,rfl,hd,rfl⟩:=hrel;by_cases hlt:k<N
 ·have D:k<s.size:=by omega
  have m:k<l.length:=by have:=u.o;omega
  have X:=C.o k D m;have c:=Up i m;rw[hd.o]at c;clear hd;generalize G l[k]=e at X c;have z:e=58\/e=91\/e=93\/(e≠58/\e≠91/\e≠93):=M0;rcases z with rfl|rfl|rfl|⟨Y,I,v⟩
  ·cases i with
   |false =>
    rw[ge ⟨rfl,rfl⟩]at c;have d:=F c;clear c;go_wp2_with fail;go_ret;exact⟨by rw[d.o];rfl,rfl⟩
   |true =>
    rw[gc Oc,gc P8,gc P8]at c;have d:=F c;clear c;go_wp2_with fail;go_roundw
    exact⟨k+1,true,M0,Oc,rfl,d.o.symm,by trivial⟩
    exact aa
  ·rw[gc Oc,ge rfl]at c
   have d:=F c;clear c;go_wp2_with fail;go_roundw
   exact⟨k+1,true,M0,Oc,rfl,d.o.symm,by trivial⟩
   exact aa
  ·rw[gc Oc,gc P8,ge rfl]at c
   have d:=F c;clear c;go_wp2_with fail;go_roundw
   exact⟨k+1,false,M0,Oc,rfl,d.o.symm,by trivial⟩
   exact aa
  rw[gc (λh=>Y h.1),gc I,gc v]at c;have d:=F c;clear c;have e1:(e==58)=false:=by simpa using Y
  have e2:(e==91)=false:=by simpa using I
  have e3:(e==93)=false:=by simpa using v
  go_wp2_with fail;go_roundw
  exact⟨k+1,i,M0,Oc,rfl,d.o.symm,by trivial⟩
  exact aa
 obtain rfl:k=N:=M0;have t:l.drop k=[]:=bE (by have:=u.o;omega);have f:=hd.o;rw[t]at f;have d:=fo (none=R) f;clear f hd;go_wp2_with fail;go_ret;exact⟨by rw[<-d.o];rfl,rfl⟩
theorem TY{sp:Bool}{l:O}:∀{k:Nat},k<=l.length->(∀j (f:j<l.length),j<k->lS sp l[j]=false)->(∀m:k<l.length,lS sp l[k]=true)->dU sp l=(l.take k,l.drop k):=by
 intro k m Y I;have e:l=l.take k++l.drop k:=(cT k l).symm
 have g:∀y∈l.take k,(λc=>!lS sp c) y=true:=by
  intro y hy;obtain⟨j,f,rfl⟩:=cC hy;rw[aD]at f;rw[M8];simp[Y j M0 M0]
 have hd:(l.drop k).takeWhile (λc=>!lS sp c)=[]/\(l.drop k).dropWhile (λc=>!lS sp c)=l.drop k:=by
  by_cases d:k<l.length
  ·rw[aC d]
   have:=I d;exact⟨bI (by simp[this]),aX (by simp[this])⟩
  rw[bE M0];exact⟨rfl,rfl⟩
 unfold dU
 have h:l.takeWhile (λc=>!lS sp c)=l.take k++(l.drop k).takeWhile (λc=>!lS sp c):=by
  conv=>lhs;rw[e]
  exact a34 g
 have i:l.dropWhile (λc=>!lS sp c)=(l.drop k).dropWhile (λc=>!lS sp c):=by
  conv=>lhs;rw[e]
  exact a3Y g
 rw[h,i,hd.1,hd.2,aV]
theorem slP_b{sp:Bool}{c:UInt8}:lS sp c=(decide (G c=47)||(sp&&decide (G c=92))):=by
 unfold lS
 have Y:(c==47)=decide (G c=47):=by
  rw[bX,beq_iff_eq,gx];exact⟨λh=>by rw[h];decide,λh=>eX (h.trans P8)⟩
 have I:(c==92)=decide (G c=92):=by
  rw[bX,beq_iff_eq,gx];exact⟨λh=>by rw[h];decide,λh=>eX (h.trans P8)⟩
 rw[Y,I]
theorem BE(l:O)(sp:Bool)(w:H)(hl:l.length<=1024000000):bF prog 168 #[.string (E l),.bool sp] w (.tuple #[S (dU sp l).1,S (dU sp l).2]):=by
 obtain⟨R,f⟩:=V (dU sp l);have r:∀k,k<=l.length->(∀j (g:j<l.length),j<k->lS sp l[j]=false)->(∀u:k<l.length,lS sp l[k]=true)->R=(l.take k,l.drop k):=λk Y I h3=>f.trans (TY Y I h3);rw[<-f];clear f;have p:=F r;clear r;obtain⟨s,m⟩:=V (E l);have y:s.size=l.length:=by rw[m,aF]
 have t:∀k (u:k<s.size) (v:k<l.length),((s[k]'u).toNat:Int)=G l[k]:=λk u v=>cy m u v;have z:∀k,s.extract 0 k=E (l.take k):=λk=>by rw[m,cd,dP,pA]
 have n:∀k,s.extract k s.size=E (l.drop k):=λk=>by rw[m,cd,aF,aP (by rw[aj];omega)]
 rw[<-m];have x:E l=s:=m.symm;have T:=F x;clear m x;obtain⟨N,L⟩:=V (s.size);have iP:s.size=N:=L.symm;rw[iP]at n;have oP:N<=1024000000:=M0;have iV:=F t;clear t;have K:=F y;clear y hl L;have W:=F z;clear z;have TO:=F n;clear n;go_enter func168,ntmps168;go_wp2_with fail
 go_loopw [6] (λiv wr=>∃k:Nat,k<=N/\iv=.int .i64 k/\Hid (∀j (g:j<l.length),j<k->lS sp l[j]=false)/\w=wr) (λi _=>N-(intOf i).toNat)
 exact⟨0,M0,Oc,(λj g h=>absurd h (cL j)),rfl⟩
 obtain⟨k,u,rfl,hall,rfl⟩:=hrel;by_cases hlt:k<N
 ·have mf:k<s.size:=by omega
  have J:k<l.length:=by have:=K.o;omega
  have X:=iV.o k mf J
  have hnext:lS sp l[k]=false->∀j (g:j<l.length),j<k+1->lS sp l[j]=false:=λh j g Y=>by
   rcases cI j k with I|I
   ·exact hall.o j g I
   obtain rfl:j=k:=M0;exact h
  have hhit:lS sp l[k]=true->R=(l.take k,l.drop k):=λh=>p.o k M0 hall.o (λ_=>h);rw[slP_b]at hnext hhit;have e:=F hnext;clear hnext;have d:=F hhit;clear hhit hall;have e1:=W.o k;have e2:=TO.o k;generalize G l[k]=B at X e d;have hki:(k:Int)<=N:=M0;by_cases c:B=47
  ·subst c
   have q:=F<|d.o Oc;clear d e;go_wp2_with fail
   go_quiet (fail)
   go_wp2_with fail
   go_ret2
   exact⟨by rw[q.o];rfl,nO (bg _)⟩
  have q47:(B==47)=false:=by simpa using c
  cases sp with
  |false =>
   have C:=F<|e.o (by simp[c]);clear d e;go_wp2_with fail;go_roundw
   exact⟨k+1,M0,Oc,C.o,by trivial⟩
   exact aa
  |true =>
   by_cases D:B=92
   ·subst D
    have q:=F<|d.o Oc;clear d e;go_wp2_with fail
    go_quiet (fail)
    go_wp2_with fail
    go_ret2
    exact⟨by rw[q.o];rfl,nO (bg _)⟩
   have q92:(B==92)=false:=by simpa using D
   have C:=F<|e.o (by simp[c,D]);clear d e;go_wp2_with fail;go_roundw
   exact⟨k+1,M0,Oc,C.o,by trivial⟩
   exact aa
 obtain rfl:k=N:=M0;have f:=p.o l.length (ag _) (λj g h=>hall.o j g (by have:=K.o;omega)) (λh=>absurd h (Nat.lt_irrefl _));rw[di,dF]at f;have q:=F f;clear f hall;have he:(⟨#[]⟩:ByteArray)=E []:=rfl;go_wp2_with fail
 go_ret2
 exact⟨by rw[q.o,<-T.o];rfl,bg _⟩

theorem Hj:∀(l:O) (n:Int),(∃y∈l,fg (G y) 10<0)->kU n l=none
 | [],_,h=>by obtain⟨_,h,_⟩:=h;cases h
 |c::t,n,h=>by
  rw[kU];by_cases d:fg (G c) 10<0
  ·rw[ge d]
  rw[gc d];refine Hj t _ ?_;obtain⟨y,hy,hd⟩:=h;rcases aK.mp hy with rfl|hy
  ·exact absurd hd d
  exact⟨y,hy,hd⟩
theorem Ye:∀(l:O) (n:Int),(∀y∈l,¬fg (G y) 10<0)->∃v,kU n l=some v
 | [],n,_=>⟨n,rfl⟩
 |c::t,n,h=>by
  rw[kU,gc (h c Oc)];exact Ye t _ (λy hy=>h y (by simp[hy]))
abbrev apE(o:Option (Int×Bool)):Ending:=.returned (.tuple #[.int .i64 ((o.map (·.1)).getD 0),.bool ((o.map (·.2)).getD false),.bool o.isSome])
theorem Kk(aJ l:O)(w:H)(hl:l.length<=1024000000):Calls prog 211 #[.string (E aJ),.string (E l)] w λe w'=>e=apE (Uc aJ l)/\w'=w:=by
 have r:=λW=>Mi aJ W;have g:=λW=>ki l W hl;obtain⟨R,c⟩:=V (Uc aJ l);rw[<-c];unfold Uc at c;generalize GB aJ=O' at r c;generalize E aJ=ss at *;have Hv:=F r;clear r;have hbad:∀k (n:k<l.length),fg (G l[k]) 10<0->kU 0 l=none:=λk n h=>Hj l 0 ⟨_,be n,h⟩
 have hgood:(∀k (n:k<l.length),¬fg (G l[k]) 10<0)->∃v,kU 0 l=some v:=λh=>Ye l 0 (λy hy=>by
  obtain⟨k,n,rfl⟩:=cC hy;exact h k n)
 obtain⟨s,B⟩:=V (E l);have C:s.size=l.length:=by rw[B,aF]
 have u:∀k (n:k<s.size) (x:k<l.length),((s[k]'n).toNat:Int)=G l[k]:=λk n x=>cy B n x;have hemp:(s.toList=[]) ↔ l=[]:=by rw[B,aB]
 rw[<-B]at g⊢;clear B;obtain⟨N,hN⟩:=V (s.size);have iP:s.size=N:=hN.symm;have oP:N<=1024000000:=M0;have iV:=F u;clear u;have eM:=F C;clear C hl hN;by_cases hnil:l=[]
 ·rw[ge hnil]at c
  have he:=hemp.mpr hnil;have he1:s.toList.isEmpty=true:=by simpa using he
  have L:=F c;clear hemp c hbad hgood g;go_enter func211,ntmps211;go_wp2_with fail
  go_ret3
  exact⟨by rw[L.o];rfl,rfl⟩
 rw[gc hnil]at c;have he:¬s.toList=[]:=λh=>hnil (hemp.mp h);have he1:s.toList.isEmpty=false:=by simpa using he
 have J:dc l=kU 0 l:=by unfold dc;rw[gc hnil]
 rw[J]at c g;clear hemp J hnil;have HBAD:=F hbad;clear hbad;have a2i:=F hgood;clear hgood;have pP:=F g;clear g;have L:=F c;clear c;go_enter func211,ntmps211;go_wp2_with fail
 go_loopw [7] (λiv wr=>∃k:Nat,k<=N/\iv=.int .i64 k/\Hid (∀j (t:j<l.length),j<k->0<=fg (G l[j]) 10)/\w=wr) (λi _=>N-(intOf i).toNat)
 exact⟨0,M0,Oc,(λj t h=>absurd h (cL j)),rfl⟩
 obtain⟨k,n,rfl,hall,rfl⟩:=hrel;by_cases hlt:k<N
 ·have mf:k<s.size:=by omega
  have z:k<l.length:=by have:=eM.o;omega
  have X:=iV.o k mf z;have hr:=jL l[k];have p:=λW=>dm (G l[k]) 10 W hr M0;have hbad:=HBAD.o k z
  have hnext:0<=fg (G l[k]) 10->∀j (t:j<l.length),j<k+1->0<=fg (G l[j]) 10:=λh j t Y=>by
   rcases cI j k with I|I
   ·exact hall.o j t I
   obtain rfl:j=k:=M0;exact h
  have K:=F hnext;clear hnext;generalize fg (G l[k]) 10=D at p hbad K;generalize G l[k]=X' at X hr p;have rN:=F p;clear p hall;by_cases hD0:D<0
  ·have U:=hbad hD0
   have c:=L.o;rw[U]at c;have f:=fo (R=none) c;clear c U hbad K
   go_wp2_with(go_at_call 93;refine(rN.o _).e ?_)
   go_ret3
   exact⟨by rw[f.o];rfl,rfl⟩
  have HS:=F<|K.o M0;clear hbad K
  go_wp2_with(go_at_call 93;refine(rN.o _).e ?_)
  go_roundw
  exact⟨k+1,M0,Oc,HS.o,by trivial⟩
  exact aa
 obtain rfl:k=N:=M0;obtain⟨v,hv⟩:=a2i.o (λj t=>by have:=hall.o j t (by have:=eM.o;omega);omega);have c:=L.o;have g:=pP.o;rw[hv]at c g;replace g:∀W,bP prog 180 #[.string s] W (.tuple #[.int .i64 v,.bool true]):=g;have M:=F g;clear g hall hv pP;dsimp only at c;by_cases hbig:65535<v
 ·rw[ge hbig]at c
  have f:=F c;clear c
  go_wp2_with(go_at_call 180;refine(M.o _).e ?_)
  go_ret3
  exact⟨by rw[f.o];rfl,rfl⟩
 rw[gc hbig]at c;cases O' with
 |none =>
  rw[gc Oc]at c;have f:=F c;clear c;have T:=fo (∀W,bP prog 233 #[.string ss] W (.tuple #[.int .i64 0,.bool false])) Hv.o
  go_wp2_with(first|(go_at_call 180;refine(M.o _).e ?_)|(go_at_call 233;refine(T.o _).e ?_))
  go_ret3
  exact⟨by rw[f.o];rfl,rfl⟩
 |some o =>
  have T:=fo (∀W,bP prog 233 #[.string ss] W (.tuple #[.int .i64 o,.bool true])) Hv.o;by_cases ho:o=v
  ·rw[ge (by rw[ho])]at c
   have f:=F c;clear c;have hov:(o==v)=true:=by simpa using ho
   go_wp2_with(first|(go_at_call 180;refine(M.o _).e ?_)|(go_at_call 233;refine(T.o _).e ?_))
   go_ret3
   exact⟨by rw[f.o];rfl,rfl⟩
  rw[gc (λh=>ho (bj h))]at c;have f:=F c;clear c;have hov:(o==v)=false:=by simpa using ho
  go_wp2_with(first|(go_at_call 180;refine(M.o _).e ?_)|(go_at_call 233;refine(T.o _).e ?_))
  go_ret3
  exact⟨by rw[f.o];rfl,rfl⟩

theorem yI(c:UInt8)(s:O):Lib.cut s [c]=bQ c s:=by
 by_cases h:c∈s
 ·obtain⟨p,r,e,hp,d⟩:=ou h
  rw[d,e,Fj p r hp]
 rw[b68 h,yk h]
theorem Oz:∀s:O,qH s=((bQ 58 s).1,(bQ 58 s).2.1)
 | []=>rfl
 |x::t=>by
  rw[qH,bQ,Oz t]
  split <;>rfl
theorem Id(s:O):(Lib.lastIndexByte (E s) 64=-1/\zL s=none)\/∃i:Nat,i<s.length/\Lib.lastIndexByte (E s) 64=i/\zL s=some (s.take i,s.drop (i+1)):=by
 have e64:∀j (c:j<s.length),((((E s).data[j]!).toNat:Int)=64) ↔ s[j]=64:=by
  intro j c
  have e:(E s).data[j]! = s[j]:=by
   show s.toArray[j]! = _;simp[c]
  rw[e];exact⟨λh=>eX (by show G s[j]=G 64;exact h.trans P8),λh=>by rw[h];decide⟩
 rcases Lib.lastIndexByte_spec (E s) 64 with⟨Y,I⟩|⟨i,Y,I,d,f⟩
 ·refine .inl ⟨Y,zM λhm=>?_⟩
  obtain⟨j,c,he⟩:=cC hm;exact I j (by rw[aF];exact c) ((e64 j c).mpr he)
 rw[aF]at Y;refine .inr ⟨i,Y,I,?_⟩
 have k:s=s.take i++64::s.drop (i+1):=by
  conv=>lhs;rw[<-List.take_append_drop i s,aC Y,(e64 i Y).mp d]
 have g:(64:UInt8)∉s.drop (i+1):=λhm=>by
  obtain⟨j,c,he⟩:=cC hm;rw[aj]at c;rw[M7]at he;exact f (i+1+j) M0 (by rw[aF];omega) ((e64 (i+1+j) M0).mpr he)
 conv=>lhs;rw[k]
 exact NO _ g
def kq(a:qj):List Z:=[S a.user,S a.pass]++aS a.host++[.bool a.bz,.int .i64 a.port]
abbrev bU(a:qj):Array Z:=(kq a).toArray
abbrev a29(o:Option qj):Ending:=.returned (.tuple #[.agg (bU (o.getD A0)),.bool o.isSome])
theorem allA(w:H):(Instr.alloc 169 true (Value.tuple #[])).run prog w=.ok (.pointer (some ⟨w.heap.size,0,none⟩)) (w.alloc (.cells (bU A0) 169)):=Rz
theorem qy:(prog.info? 169).map (·.size)=some 15:=Rz
theorem bY:(prog.info? 9).map (·.size)=some 1/\(prog.info? 3).map (·.size)=some 1/\(prog.info? 4).map (·.size)=some 1:=by refine⟨?_,?_,?_⟩ <;>kernel_rfl
theorem qz{a:qj}(h:a.host.six.length=8):(kq a).length=15:=by simp[kq,aS,h]
theorem fC{a:qj}(h:a.host.six.length=8):(bU a).size=15:=by rw[fZ,qz h]
theorem jX{h:gF}:∀v∈aS h,v.oneCell'=true:=by
 intro v c;simp only[aS,aK,dt]at c;rcases c with e|e|e|⟨_,_,e⟩ <;>first|(rw[e];rfl)|(rw[<-e];rfl)
theorem Ig{a:qj}:∀v∈kq a,v.oneCell'=true:=by
 intro v c;simp only[kq,bO,aK,cV,or_false]at c;rcases c with((e|e)|e)|e|e
 ·rw[e];rfl
 ·rw[e];rfl
 ·exact jX v e
 ·rw[e];rfl
 rw[e];rfl
theorem NR(a:qj)(x:O):(bU a).setIfInBounds 0 (S x)=bU {a with user:=x}:=rfl
theorem NQ(a:qj)(x:O):(bU a).setIfInBounds 1 (S x)=bU {a with pass:=x}:=rfl
theorem rg:∀(new pre old post:List Z),old.length=new.length->ua (pre++old++post).toArray pre.length new=(pre++new++post).toArray
 | [],pre,old,post,h=>by
  obtain rfl:old=[]:=az h;rfl
 |v::r,pre,old,post,h=>by
  cases old with
  |nil=>cases h
  |cons x t =>
   rw[ua];have e:(pre++x::t++post).toArray.setIfInBounds pre.length v=((pre++[v])++t++post).toArray:=Oc;rw[e];have:=rg r (pre++[v]) t post (by simpa using h);rw[ae]at this;simp only[cz,aO,bM]at this;rw[this];simp
theorem mQ(old new:List Z)(h:old.length=new.length):ua old.toArray 0 new=new.toArray:=by
 have:=rg new [] old [] h
 simpa using this
theorem NP(a:qj)(h:gF)(c:h.six.length=8)(g8:a.host.six.length=8):ua (bU a) 2 (aS h)=bU {a with host:=h} :=
 rg (aS h) [S a.user,S a.pass] (aS a.host) [.bool a.bz,.int .i64 a.port] (by simp[aS,c,g8])
theorem BF(a:qj)(n:Int)(c:a.host.six.length=8):(bU a).setIfInBounds 14 (.int .i64 n)=bU {a with port:=n}:=by
 obtain⟨u,p,⟨k,nm,f,six⟩,hp,po⟩:=a;simp only at c;obtain⟨b1,G,b3,b4,b5,b6,b7,b8,rfl⟩:=eight c;rfl
theorem If(a:qj)(b:Bool)(c:a.host.six.length=8):(bU a).setIfInBounds 13 (.bool b)=bU {a with bz:=b}:=by
 obtain⟨u,p,⟨k,nm,f,six⟩,hp,po⟩:=a;simp only at c;obtain⟨b1,G,b3,b4,b5,b6,b7,b8,rfl⟩:=eight c;rfl
