/- Joined texts. -/
import Derived.Laws.StructEq
import Derived.ChangeKeysEq
import Derived.Test.YtmndlfglgcioeaaGreatDoorEGSixF
import Derived.Test.YtmndlfglgcioeaaGreatDoorEGEntA
import Derived.Test.YtmndlfglgcioeaaGreatDoorEGOwnB
set_option maxHeartbeats 40000000
namespace Go.Proofs.YtmndlfglgcioeaaGreatDoor
open Tryz
open Go.RowKit
set_option maxRecDepth 10000
section
variable {P:Program} {ops:Array Oper} {rest:List Oper} {o:Oper} {a:Act} {w:World} {Q:Exit->Act->World->Prop}
theorem Ac(hg:Region.wanted o (yielded ops a.tmps)=true)(v:Value)(hr:(execOp a.eval o).run P w=.ok (.value v) w)(h:wpList P ops Q rest (a.put o.dst v) w):wpList P ops Q (o::rest) a w:=by
 unfold wpList;rw[if_pos hg];refine .inl ?_;unfold Oper.wp;rw[hr];exact h
end
structure HB (W:World) (b:Nat) (h:ie):Prop where
 a:W.heap[b]? = some (.cells (cd h) 27 (0,0))
 l:h.six.length=8
theorem HB.new(W:World)(h:ie)(l:h.six.length=8):HB (W.alloc (.cells (cd h) 27)) W.heap.size h:=⟨heap_alloc_new W _,l⟩
theorem HB.cell{W:World}{b:Nat}{h:ie}(i:HB W b h)(j:Nat):W.cell? ⟨b,j,none⟩=(cd h)[j]?:=by
 simp[World.cell?,i.a]
theorem HB.load{W:World}{b:Nat}{h:ie}(i:HB W b h):(loadVar 27 ⟨b,0,none⟩).run prog W=.ok (.agg (cd h)) W:=pK W b h i.a i.l
section
variable {ops:Array Oper} {rest:List Oper} {o:Oper} {a:Act} {w:World} {Q:Exit->Act->World->Prop}
theorem BL{W:World}(hg:o.guard=none)(x y:Operand)(ho:o.op=.store 27 x y)(h:ie)(hl:h.six.length=8)
  (hW:W=w.alloc (.cells (cd H0) 27)) (hx:a.eval x=.pointer (some ⟨w.heap.size,0,none⟩)) (hy:a.eval y=.agg (cd h))
  (k:∀ w',HB w' w.heap.size h->Below w.heap.size w w'->wpList prog ops Q rest (a.put o.dst undef) w'):wpList prog ops Q (o::rest) a W:=by
 subst hW;have hz:(cd h).size=11:=by simp[aZ,hl]
 exact gD hg 27 x y ho (cd h) (cd H0) 27 hx hy (hsize h hl) (by rw[hz];rfl) (Yv h) (k _ (HB.new w h hl) ((Below.refl _ _).alloc (af _) _))
theorem Sd(hg:Region.wanted o (yielded ops a.tmps)=true)(x:Operand)(ho:o.op=.load 27 x)(b:Nat)(h:ie)(i:HB w b h)(hx:a.eval x=.pointer (some ⟨b,0,none⟩))
  (k:wpList prog ops Q rest (a.put o.dst (.agg (cd h))) w):wpList prog ops Q (o::rest) a w:=by
 refine Ac hg (.agg (cd h)) ?_ k;have e:=i.load;unfold execOp;simp only[ho,hx,Instr.loadAt,Instr.sureAddr,Sem.run_bind,Sem.run_pure,Result.andThen_ok,e]
end
theorem iK{a b c:World}(h1:Below a.heap.size a b)(h2:Below b.heap.size b c):Below a.heap.size a c:=h1.trans (h2.mono h1.size)

def g1:ie:={H0 with kind:=3,four:=2130706433}
def g2:ie:={H0 with kind:=5,name:=[48,120,55,70,46,49]}
def g3:ie:={H0 with kind:=2,name:=[97,97,46,98]}
def g4:ie:={H0 with kind:=4,six:=[0,0,0,0,0,0,0,1]}
def g6:ie:={H0 with kind:=1}
def g10:ie:={H0 with kind:=5,name:=[97,37,122,122,37,55,70,37,67,51]}
theorem q1:dh (ls ⟨#[48,120,55,70,46,49]⟩) true=some g1:=by kernel_rfl
theorem q2:dh (ls ⟨#[48,120,55,70,46,49]⟩) false=some g2:=by kernel_rfl
theorem q3:dh (ls ⟨#[65,37,52,49,239,188,142,98]⟩) true=some g3:=by kernel_rfl
theorem q4:dh (ls ⟨#[91,58,58,49,93]⟩) false=some g4:=by kernel_rfl
theorem q5:dh (ls ⟨#[91,58,58,49]⟩) true=none:=by kernel_rfl
theorem q6:dh (ls ⟨#[]⟩) false=some g6:=by kernel_rfl
theorem q7:dh (ls ⟨#[]⟩) true=none:=by kernel_rfl

def iH(s:Bytes):Bytes:=s.filter fun c=>!(c==9||c==10||c==13)
def trimF(s:Bytes):Bytes:=((s.dropWhile fun c=>decide (b2 c<=32)).reverse.dropWhile fun c=>decide (b2 c<=32)).reverse
def eh(s:Bytes):Bytes:=iH (trimF s)
structure lH where
 iO:Bool
 aH:Bytes
 rest:Bytes
 bS:Bool
 q:Bytes
 bZ:Bool
 f:Bytes
def bY(c:UInt8):Bytes->Bytes×Bytes×Bool
 | []=>([],[],false)
 |x::t=>if x=c then([],t,true)else(x::(bY c t).1,(bY c t).2.1,(bY c t).2.2)
def iP(c:Int):Bool:=decide ((65<=c∧c<=90)∨(97<=c∧c<=122))
def lL(c:Int):Bool:=iP c||decide (48<=c∧c<=57)||decide (c=43∨c=45∨c=46)
def qZ:Bytes->Bool
 | []=>false
 |c::t=>iP (b2 c)&&t.all fun y=>lL (b2 y)
def fc(s:Bytes):lH :=
 let a:=bY 35 s
 let b:=bY 63 a.1
 let c:=bY 58 b.1
 if c.2.2=true∧qZ c.1=true then⟨true,c.1.map dF,c.2.1,b.2.2,b.2.1,a.2.2,a.2.1⟩else⟨false,[],b.1,b.2.2,b.2.1,a.2.2,a.2.1⟩
def dg:Bytes->Bool
 | [a,b]=>iP (b2 a)&&(b==58||b==124)
 |_=>false
def iQ:Bytes->Bool
 | [a,b]=>iP (b2 a)&&b==58
 |_=>false
def fW:Bytes->Bool
 | []=>false
 | [_]=>false
 | [a,b]=>dg [a,b]
 |a::b::c::_=>dg [a,b]&&(c==47||c==92||c==63||c==35)
def jj:Bytes->Option Bytes
 | []=>none
 |c::t=>if c=46 then some t else match c,t with
  |37,50::y::r=>if y=101∨y=69 then some r else none
  |_,_=>none
def ll(s:Bytes):Bool:=jj s==some []
def kz(s:Bytes):Bool:=match jj s with|some r=>ll r|none=>false
def cI(aH:Bytes)(p:List Bytes):List Bytes:=match p with
 | []=>[]
 | [x]=>if aH=[102,105,108,101]∧iQ x=true then [x]else []
 |p=>p.dropLast
def ks(sp:Bool)(c:UInt8):Bool:=c==47||(sp&&c==92)
def fO(sp:Bool):Bytes->List Bytes
 | []=>[[]]
 |c::t=>if ks sp c=true then []::fO sp t else match fO sp t with | []=>[[c]]|p::ps=>(c::p)::ps
def jV(aH:Bytes)(out:List Bytes)(p:Bytes)(last:Bool):List Bytes :=
 if kz p=true then(if last then cI aH out++[[]]else cI aH out)
 else if ll p=true then(if last then out++[[]]else out)
 else if aH=[102,105,108,101]∧out=[]∧dg p=true then out++[p.take 1++[58]]
 else out++[dq 4 p]
def ji(aH:Bytes):List Bytes->List Bytes->List Bytes
 |out,[]=>out
 |out,[p]=>jV aH out p true
 |out,p::q::r=>ji aH (jV aH out p false) (q::r)
def dc(aH:Bytes)(path:List Bytes)(s:Bytes):List Bytes:=ji aH path (fO (eK aH) s)
def aW:Bytes:=[102,105,108,101]
def U0:Url:=⟨[],[],[],H0,false,0,false,[],[],false,[],false,[]⟩
def dj(aH:Bytes)(p:lH):Url:={U0 with aH:=aH,bS:=p.bS,q:=dq (if eK aH=true then 3 else 2) p.q,bZ:=p.bZ,f:=dq 1 p.f}
def ra(sp:Bool)(s:Bytes):Nat:=(s.takeWhile (ks sp)).length
def gE(aH s:Bytes):List Bytes:=dc aH [] (if 0<ra (eK aH) s then s.drop 1 else s)
def dO(sp:Bool)(s:Bytes):Bytes×Bytes:=(s.takeWhile fun c=>!ks sp c,s.dropWhile fun c=>!ks sp c)
def kf(u:Url)(s:Bytes):Option Url :=
 let c:=dO (eK u.aH) s
 match kg u.aH c.1 with
 |none=>none
 |some a=>some {u with usr:=a.user,fp:=a.pass,host:=a.host,bq:=a.bq,port:=a.port,path:=if eK u.aH=true∨c.2 ≠ []then gE u.aH c.2 else u.path}
def takeA(u b:Url):Url:={u with usr:=b.usr,fp:=b.fp,host:=b.host,bq:=b.bq,port:=b.port}
def gv(u b:Url):Url:=if u.bS=true then {u with path:=b.path}else {u with path:=b.path,bS:=b.bS,q:=b.q}
def iF(u:Url)(s:Bytes):Option Url :=
 let c:=dO true s
 if dg c.1=true then some {u with path:=dc u.aH [] s}
 else if c.1=[]then some {u with path:=gE u.aH c.2}
 else match dh c.1 true with
  |none=>none
  |some h=>some {u with host:=if h.kind=2∧h.name=[108,111,99,97,108,104,111,115,116]then u.host else h,path:=gE u.aH c.2}
def lP(b:Url)(p:lH):Option Url :=
 let u:={dj aW p with host:={H0 with kind:=1}}
 let from_:=decide (b.aH=aW)
 let n:=ra (eK aW) p.rest
 if 2<=n then iF u (p.rest.drop 2)
 else
  let u:=if from_ then {u with host:=b.host}else u
  if n=1 then
   let rest:=p.rest.drop 1
   let path:=if from_=true∧(match b.path with|x::_=>iQ x | []=>false)=true∧fW rest=false then b.path.take 1 else []
   some {u with path:=dc aW path rest}
  else if from_=true∧p.rest=[]then some (gv u b)
  else if from_=true∧fW p.rest=false then some {u with path:=dc aW (cI aW b.path) p.rest}
  else some {u with path:=dc aW [] p.rest}
def fN(p:lH):Option Url :=
 let u:=dj p.aH p
 match p.rest with
 |47::47::r=>kf u r
 |47::r=>some {u with path:=dc u.aH [] r}
 |s =>
  let fl:=dq 0 s
  some {u with opq:=true,flat:=if(p.bS=true∨p.bZ=true)∧fl.getLast? = some 32 then fl.dropLast++[37,50,48]else fl}
def lS(b:Url)(p:lH):Option Url:=if p.bZ=false∨p.bS=true∨p.rest ≠ []then none else some {b with bZ:=true,f:=dq 1 p.f}
def rZ(b:Url)(p:lH):Option Url :=
 let u:=dj b.aH p
 let n:=ra (eK b.aH) p.rest
 if 2<=n∧eK b.aH=true then kf u (p.rest.drop n)
 else if 2<=n then kf u (p.rest.drop 2)
 else if n=1 then some {takeA u b with path:=dc b.aH [] (p.rest.drop 1)}
 else if p.rest=[]then some (gv (takeA u b) b)
 else some {takeA u b with path:=dc b.aH (cI b.aH b.path) p.rest}
def eU(b:Url)(p:lH):Option Url :=
 if(p.iO=true∧p.aH=aW)∨(p.iO=false∧b.opq=false∧b.aH=aW)then lP b p
 else if(p.iO=true∧eK p.aH=true)∧(p.aH≠b.aH∨p.rest.take 2=[47,47])then kf (dj p.aH p) (p.rest.drop (ra (eK p.aH) p.rest))
 else if p.iO=true∧¬ eK p.aH=true then fN p
 else if b.opq=true then lS b p
 else rZ b p
def lX(b:Url)(s:Bytes):Option Url:=eU b (fc (eh s))
def gM(s:Bytes):Option Url:=if(fc (eh s)).iO=true then eU U0 (fc (eh s))else none

def jk(x:UInt8):Bool:=mA (b2 x)
def bG(s:Bytes):Bytes:=s.dropWhile jk
def kY(x:UInt8):Bool:=decide (48<=b2 x∧b2 x<=57)
def pd(x:UInt8):Bool:=decide (x=46)||kY x
def TI:Bytes:=[117,114,108]
def ly(s:Bytes):Bytes :=
 if(s.take 3).map dF=TI then(match bG (s.drop 3)with
  | []=>s
  |c::t=>if c=61 then bG t else s)
 else s
def uG:Bytes->Bytes
 | []=>[]
 |x::r=>if x=34∨x=39 then r.takeWhile (· != x)else x::r
structure Jd where
 delay:Bytes
 has:Bool
 url:Bytes
def z48(x:UInt8):Bool:=decide (x=48)
def jO(d:Bytes):Bytes:=if d.dropWhile z48=[]then [48]else d.dropWhile z48
def xH:Bytes->Bytes
 | []=>[]
 |c::r=>if c=59∨c=44 then bG r else c::r
def W5(d t:Bytes):Option Jd:=match t with
 | []=>some ⟨d,false,[]⟩
 |c::_=>if jk c=false∧c≠59∧c≠44 then none
  else if xH (bG t)=[]then some ⟨d,false,[]⟩else some ⟨d,true,uG (ly (xH (bG t)))⟩
def YO(s:Bytes):Option Jd:=if s.takeWhile kY=[]∧s.head? ≠ some 46 then none else W5 (jO (s.takeWhile kY)) ((s.dropWhile kY).dropWhile pd)
def xu(s:Bytes):Option Jd:=YO (bG s)
structure Ak (d:Bytes):Prop where
 n:d ≠ []
 a:∀ x∈d,kY x=true
 z:jO d=d
theorem a5u:∀ k:Fin 256,kY (UInt8.ofNat k.val)=true->jk (UInt8.ofNat k.val)=false∧UInt8.ofNat k.val≠59∧UInt8.ofNat k.val≠44∧UInt8.ofNat k.val≠38:=by decide +kernel
theorem a00{x:UInt8}(h:kY x=true):jk x=false∧x≠59∧x≠44∧x≠38:=kh (P:=fun x=>kY x=true->jk x=false∧x≠59∧x≠44∧x≠38) a5u x h
theorem iE{p:UInt8->Bool}{x:UInt8}{r:Bytes}(h:p x=false):(x::r).dropWhile p=x::r:=bn (by rw[h];simp)
theorem sK{p:UInt8->Bool}:∀ {d:Bytes} (t:Bytes),(∀x∈d,p x=true)->(d++t).dropWhile p=t.dropWhile p
 | [],_,_=>rfl
 |x::d,t,h=>by
  show((x::(d++t)).dropWhile p)=_;rw[aU (h x (by simp)),sK t fun y hy=>h y (by simp[hy])]
theorem re{p:UInt8->Bool}:∀ {d:Bytes} (t:Bytes),(∀x∈d,p x=true)->(d++t).takeWhile p=d++t.takeWhile p
 | [],_,_=>rfl
 |x::d,t,h=>by
  show((x::(d++t)).takeWhile p)=_;rw[aY (h x (by simp)),re t fun y hy=>h y (by simp[hy])];rfl
theorem a1s{d x:Bytes}(h:Ak d):xu (d++([59,32,117,114,108,61]++x))=some ⟨d,true,uG (bG x)⟩:=by
 have h1:bG (d++([59,32,117,114,108,61]++x))=d++([59,32,117,114,108,61]++x):=by
  cases hd:d with
  |nil=>exact absurd hd h.n
  |cons y r=>exact iE (a00 (h.a y (by rw[hd];simp))).1
 have hne:kY 59=false:=by decide
 have h2:(d++([59,32,117,114,108,61]++x)).takeWhile kY=d:=by
  rw[re (p:=kY) _ h.a];show d++(59::([32,117,114,108,61]++x)).takeWhile kY=d;rw[aX (by decide),aG]
 have h3:(d++([59,32,117,114,108,61]++x)).dropWhile kY=[59,32,117,114,108,61]++x:=by
  rw[sK (p:=kY) _ h.a];exact iE (by decide)
 have h4:([59,32,117,114,108,61]++x).dropWhile pd=[59,32,117,114,108,61]++x:=iE (by decide);unfold xu YO;rw[h1,h2,h3,h4,if_neg (fun hh=>h.n hh.1),h.z];have e1:bG ([59,32,117,114,108,61]++x)=[59,32,117,114,108,61]++x:=iE (by decide)
 have e2:xH ([59,32,117,114,108,61]++x)=[117,114,108,61]++x:=by
  show(if(59:UInt8)=59∨(59:UInt8)=44 then bG ([32,117,114,108,61]++x)else 59::([32,117,114,108,61]++x))=_;rw[if_pos (.inl rfl)];show(32::([117,114,108,61]++x)).dropWhile jk=_;rw[aU (by decide)];exact iE (by decide)
 have e3:ly ([117,114,108,61]++x)=bG x:=by
  unfold ly
  have a1:(([117,114,108,61]++x).take 3).map dF=TI:=by
   show [dF 117,dF 114,dF 108]=TI;decide
  have a2:bG (([117,114,108,61]++x).drop 3)=61::x:=iE (by decide);rw[if_pos a1,a2];rfl
 show W5 d (59::([32,117,114,108,61]++x))=_;unfold W5;dsimp only;rw[if_neg (by simp)];have e1':bG (59::([32,117,114,108,61]++x))=[59,32,117,114,108,61]++x:=e1;rw[e1',e2,if_neg (by simp),e3]
theorem P6(s:Bytes)(hs:∀ x∈s,kY x=true):Ak (jO s):=by
 have key:∀ l:Bytes,(l.dropWhile z48).dropWhile z48=l.dropWhile z48:=by
  intro l
  induction l with
  |nil=>rfl
  |cons x r ih =>
   by_cases hx:z48 x=true
   ·rw[aU hx];exact ih
   rw[bn hx,bn hx]
 unfold jO
 split
 ·exact⟨by simp,by decide,by decide⟩
 next h =>
 refine⟨h,fun x hx=>hs x ((cD _).subset hx),?_⟩;unfold jO;rw[key,if_neg h]
theorem a50{p:UInt8->Bool}:∀ (s:Bytes),∀x∈s.takeWhile p,p x=true
 | [],x,h=>by cases h
 |y::r,x,h=>by
  by_cases hy:p y=true
  ·rw[aY hy]at h
   rcases aj.mp h with rfl|h
   ·exact hy
   exact a50 r x h
  rw[aX hy]at h;cases h
theorem Ey{s:Bytes}{r:Jd}(h:xu s=some r):Ak r.delay:=by
 unfold xu YO at h
 split at h
 ·cases h
 have hd:=P6 _ (a50 (p:=kY) (bG s));unfold W5 at h
 split at h
 ·cases h;exact hd
 split at h
 ·cases h
 split at h <;>(cases h;exact hd)

def a5F:Nat:=4607182418800017408
def Tv:Nat:=4621819117588971520
def me:Nat->Nat
 |0=>a5F
 |k+1=>(Ieee.double.mul (me k) Tv).getD 0
theorem pow_mul:∀ k:Fin 22,Ieee.double.mul (me k.val) Tv=some (me (k.val+1)):=by decide +kernel
theorem SU{k:Nat}(h:k<22):Ieee.double.mul (me k) Tv=some (me (k+1)):=pow_mul ⟨k,h⟩
def Ma(b:Nat):Bool:=match Ieee.double.read b with
 | .number _ m _=>m != 0
 |_=>false
theorem WX:∀ k:Fin 23,Ma (me k.val)=true:=by decide +kernel
def okB(b:Nat):Bool:=match Ieee.double.read b with
 | .nan ..=>false
 |_=>true
theorem a08{a b:Nat}(ha:okB a=true)(hb:Ma b=true):∃ r,Ieee.double.mul a b=some r:=by
 unfold okB at ha;unfold Ma at hb;unfold Ieee.Format.mul;generalize Ieee.double.read a=x at ha ⊢;generalize Ieee.double.read b=y at hb ⊢;cases y with
 |number t n j =>
  have hn:n≠0:=by simpa using hb
  cases x with
  |number s m i=>exact⟨_,rfl⟩
  |infinity s=>simp[Ieee.Datum.product,hn]
  |nan s f=>cases ha
 |infinity s=>cases hb
 |nan s f=>cases hb
theorem Z5{a b:Nat}(ha:okB a=true)(hb:Ma b=true):∃ r,Ieee.double.div a b=some r:=by
 unfold okB at ha;unfold Ma at hb;unfold Ieee.Format.div;generalize Ieee.double.read a=x at ha ⊢;generalize Ieee.double.read b=y at hb ⊢;cases y with
 |number t n j =>
  have hn:n≠0:=by simpa using hb
  cases x with
  |number s m i=>simp[Ieee.Datum.quotient,hn]
  |infinity s=>exact⟨_,rfl⟩
  |nan s f=>cases ha
 |infinity s=>cases hb
 |nan s f=>cases hb
theorem TQ(f:Ieee.Format)(neg:Bool){r:Nat}(h:r<f.signWeight):f.word neg r%f.signWeight=r:=by
 unfold Ieee.Format.word
 split
 ·rw[Nat.add_mod,Nat.mod_self,bC,Nat.mod_mod,Ui h]
 exact Ui h
theorem KX(neg:Bool){r:Nat}(h:r<=Ieee.double.infRung):okB (Ieee.double.word neg r)=true:=by
 have hw:r<Ieee.double.signWeight:=Nat.lt_of_le_of_lt h Ieee.double.infRung_lt;unfold okB Ieee.Format.read;simp only[TQ _ neg hw]
 split
 ·next e =>
  split at e
  ·cases e
  split at e
  ·cases e
  split at e
  ·cases e
  omega
 rfl
theorem WD(neg:Bool)(m:Nat)(p:Int):okB (Ieee.double.nearest neg m p)=true:=by
 unfold Ieee.Format.nearest;dsimp only
 split
 ·exact KX _ (aK _)
 exact KX _ (Nat.min_le_right ..)
theorem a0Y(n:Int):okB (floatOfInt .f64 n)=true:=WD _ _ _
def moveB(x:Nat)(n:Int):Nat:=if n<0 then(Ieee.double.div x (me n.natAbs)).getD 0 else(Ieee.double.mul x (me n.natAbs)).getD 0
def rI(s:Bytes):Option Int :=
 if s.head? = some 45 then(if 4<(s.drop 1).length then none else(dk (s.drop 1)).map fun n=>-n)
 else if 4<(if s.head? = some 43 then s.drop 1 else s).length then none else dk (if s.head? = some 43 then s.drop 1 else s)
def DD(t:Bytes)(m:Int):Option (Int×Int) :=
 if((bY 46 t).2.2=true∧(bY 46 t).2.1=[])∨15<(bY 46 t).1.length+(bY 46 t).2.1.length then none
 else match dk ((bY 46 t).1++(bY 46 t).2.1)with
  |none=>none
  |some n=>if m-((bY 46 t).2.1.length:Int) < -22∨22<m-((bY 46 t).2.1.length:Int)then none else some (n,m-((bY 46 t).2.1.length:Int))
def isE(x:UInt8):Bool:=decide (x=101∨x=69)
def nE(x:UInt8):Bool:=!isE x
def sM(t:Bytes):Option (Int×Int):=match t.dropWhile nE with
 | []=>DD t 0
 |_::u=>match rI u with
  |none=>none
  |some m=>DD (t.takeWhile nE) m
structure Flo where
 below:Bool
 n:Int
 m:Int
def sN(f:Flo):Nat:=if f.below=true∧f.n≠0 then Op.negFloat .f64 (moveB (floatOfInt .f64 f.n) f.m)else moveB (floatOfInt .f64 f.n) f.m
def geB(b:Nat):Bool:=FloatKind.f64.format.order b 0==some .gt||FloatKind.f64.format.order b 0==some .eq
def Gs(s:Bytes):Option Flo:=if s.head? = some 45 then(sM (s.drop 1)).map fun p=>⟨true,p.1,p.2⟩else(sM s).map fun p=>⟨false,p.1,p.2⟩
structure da where
 url:Bytes
 words:List Bytes
 hw:Bool
 w:Int
 hh:Bool
 h:Int
 hd:Bool
 d:Nat
def C0:da:=⟨[],[],false,0,false,0,false,0⟩
def nV(c:da)(word:Bytes):Option da:=match word.getLast? with
 |none=>none
 |some l =>
  if l=119 then(match dk word.dropLast with
   |none=>none
   |some n=>if n<1∨c.hw=true∨c.hd=true then none else some {c with hw:=true,w:=n})
  else if l=104 then(match dk word.dropLast with
   |none=>none
   |some n=>if n<1∨c.hh=true∨c.hd=true then none else some {c with hh:=true,h:=n})
  else if l=120 then(match Gs word.dropLast with
   |none=>none
   |some f=>if geB (sN f)=false∨c.hw=true∨c.hh=true∨c.hd=true then none else some {c with hd:=true,d:=sN f})
  else none
def mU(c:da):List Bytes->Option da
 | []=>some c
 |x::l=>match nV c x with
  |none=>none
  |some c'=>mU c' l
def gJ(ws:List Bytes):Option da:=match mU C0 ws with
 |none=>none
 |some c=>if c.hh=true∧c.hw=false then none else some {c with words:=ws}
def eW(x:UInt8):Bool:=decide (x=44)||jk x
def eR(x:UInt8):Bool:=!jk x
def fR:Bool->Bytes->Nat
 |_,[]=>0
 |true,x::r=>fR (decide (x≠41)) r+1
 |false,x::r=>if x=40 then fR true r+1 else if eW x=true then 0 else fR false r+1
theorem mV:∀ (s:Bytes) (i:Bool),fR i s<=s.length
 | [],i=>by cases i <;>exact af _
 |x::r,true=>by
  have:=mV r (decide (x≠41));rw[fR,ag];omega
 |x::r,false=>by
  rw[fR,ag]
  split
  ·have:=mV r true;omega
  split
  ·exact aK _
  have:=mV r false;omega
def kF:Nat->Bytes->List Bytes×Bytes
 |0,s=>([],s)
 |k+1,s=>if fR false (s.dropWhile jk)=0 then([],s.dropWhile jk)
  else((s.dropWhile jk).take (fR false (s.dropWhile jk))::(kF k ((s.dropWhile jk).drop (fR false (s.dropWhile jk)))).1,(kF k ((s.dropWhile jk).drop (fR false (s.dropWhile jk)))).2)
def jY(s:Bytes):List Bytes×Bytes:=kF s.length s
theorem iN(p:UInt8->Bool)(s:Bytes):(s.dropWhile p).length<=s.length:=(cD p).length_le
theorem yd:∀ (k k':Nat) (s:Bytes),s.length<=k->s.length<=k'->kF k s=kF k' s
 |0,0,_,_,_=>rfl
 |0,k'+1,s,h,_=>by
  have e:s=[]:=ak (by omega);subst e;rfl
 |k+1,0,s,_,h=>by
  have e:s=[]:=ak (by omega);subst e;rfl
 |k+1,k'+1,s,h,h'=>by
  unfold kF;have h1:=iN jk s
  split
  ·rfl
  next hz =>
  have h2:((s.dropWhile jk).drop (fR false (s.dropWhile jk))).length<=(s.dropWhile jk).length-1:=by rw[ah];omega
  have h3:0<(s.dropWhile jk).length:=by
   have:=mV (s.dropWhile jk) false;omega
  rw[yd k k' _ (by omega) (by omega)]
theorem IF(s:Bytes):jY s=if fR false (s.dropWhile jk)=0 then([],s.dropWhile jk)
  else((s.dropWhile jk).take (fR false (s.dropWhile jk))::(jY ((s.dropWhile jk).drop (fR false (s.dropWhile jk)))).1,(jY ((s.dropWhile jk).drop (fR false (s.dropWhile jk)))).2):=by
 have h1:=iN jk s;unfold jY;rw[yd s.length (s.length+1) s (af _) (gQ _)]
 conv=>lhs;unfold kF
 split
 ·rfl
 rw[yd s.length _ _ (by rw[ah];omega) (af _)]
theorem IG:∀ (k:Nat) (s:Bytes),(kF k s).2.length<=s.length
 |0,s=>af _
 |k+1,s=>by
  have h1:=iN jk s;unfold kF
  split
  ·exact h1
  have:=IG k ((s.dropWhile jk).drop (fR false (s.dropWhile jk)));rw[ah]at this;show(kF k _).2.length<=_;omega
def g9(u:Bytes):Bytes:=(u.reverse.dropWhile fun x=>decide (x=44)).reverse
def lf(u:Bytes):Bool:=decide (u.getLast? = some 44)
structure Stp where
 url:Bytes
 words:List Bytes
 rest:Bytes
def jb(t:Bytes):Stp:=if lf (t.takeWhile eR)=true then⟨g9 (t.takeWhile eR),[],t.dropWhile eR⟩
 else⟨t.takeWhile eR,(jY (t.dropWhile eR)).1,(jY (t.dropWhile eR)).2.drop 1⟩
def sE(q:Stp)(l:List da):List da:=match gJ q.words with
 |none=>l
 |some c=>{c with url:=q.url}::l
def iS:Nat->Bytes->List da
 |0,_=>[]
 |k+1,s=>if s.dropWhile eW=[]then []else sE (jb (s.dropWhile eW)) (iS k (jb (s.dropWhile eW)).rest)
def iG(s:Bytes):List da:=iS s.length s
theorem dw_head{p:UInt8->Bool}:∀ {s:Bytes},s.dropWhile p ≠ []->∃ x r,s.dropWhile p=x::r∧p x=false
 | [],h=>absurd rfl h
 |x::r,h=>by
  cases hp:p x with
  |true=>rw[aU hp]at h ⊢;exact dw_head h
  |false=>exact⟨x,r,iE hp,hp⟩
theorem PN{x:UInt8}(h:eW x=false):eR x=true:=by
 unfold eW at h;unfold eR;cases hb:jk x with
 |true=>rw[hb,Bool.or_true]at h;cases h
 |false=>rfl
theorem BN{s:Bytes}(h:s.dropWhile eW ≠ []):(jb (s.dropWhile eW)).rest.length<s.length:=by
 have h1:=iN eW s;obtain⟨x,r,e,hx⟩:=dw_head h;rw[e]at h1 ⊢;have h2:((x::r).dropWhile eR).length<=r.length:=by rw[aU (PN hx)];exact iN _ _
 rw[ag]at h1;unfold jb
 split
 ·show((x::r).dropWhile eR).length<_;omega
 show((jY ((x::r).dropWhile eR)).2.drop 1).length<_;have h3:(jY ((x::r).dropWhile eR)).2.length<=((x::r).dropWhile eR).length:=IG _ _;rw[ah];omega
theorem xM:∀ (k k':Nat) (s:Bytes),s.length<=k->s.length<=k'->iS k s=iS k' s
 |0,0,_,_,_=>rfl
 |0,k'+1,s,h,_=>by
  have e:s=[]:=ak (by omega);subst e;rfl
 |k+1,0,s,_,h=>by
  have e:s=[]:=ak (by omega);subst e;rfl
 |k+1,k'+1,s,h,h'=>by
  unfold iS
  split
  ·rfl
  next hz =>
  have:=BN hz;rw[xM k k' _ (by omega) (by omega)]
theorem BJ(s:Bytes):iG s=if s.dropWhile eW=[]then []else sE (jb (s.dropWhile eW)) (iG (jb (s.dropWhile eW)).rest):=by
 unfold iG;rw[xM s.length (s.length+1) s (af _) (gQ _)]
 conv=>lhs;unfold iS
 split
 ·rfl
 next hz =>
 have:=BN hz;rw[xM s.length _ _ (by omega) (af _)]

theorem pD{c:UInt8}:∀ {s:Bytes},c∉s->bY c s=(s,[],false)
 | [],_=>rfl
 |x::t,h=>by rw[bY,if_neg (fun e=>h (by simp[e])),pD (s:=t) (fun h2=>h (by simp[h2]))]
theorem ng{c:UInt8}(a b:Bytes)(h:c∉a):bY c (a++c::b)=(a,b,true):=by
 induction a with
 |nil=>rw[bJ,bY,if_pos rfl]
 |cons x r ih=>rw[bd,bY,if_neg (fun e=>h (by simp[e])),ih (fun h2=>h (by simp[h2]))]
theorem AE(c:UInt8):∀ s:Bytes,c∉(bY c s).1
 | []=>by simp[bY]
 |x::t=>by
  rw[bY]
  split
  ·simp
  next h =>
  intro hm;rcases aj.mp hm with hm|hm
  ·exact h hm.symm
  exact AE c t hm
theorem nd(c:UInt8):∀ s:Bytes,s=(bY c s).1++(if(bY c s).2.2=true then c::(bY c s).2.1 else [])
 | []=>rfl
 |x::t=>by
  rw[bY]
  split
  ·next h=>rw[if_pos rfl,h];rfl
  rw[bd,<-nd c t]
theorem ij(c:UInt8):∀ s:Bytes,(bY c s).2.2=false->(bY c s).2.1=[]
 | [],_=>rfl
 |x::t,h=>by
  rw[bY]at h ⊢
  split at h
  ·cases h
  next hx=>rw[if_neg hx];exact ij c t h
theorem Iw{s:Bytes}(h:∀ y∈s,y≠9∧y≠10∧y≠13):iH s=s:=by
 unfold iH;rw[Fp];intro y hy;obtain⟨h1,h2,h3⟩:=h y hy;simp[h1,h2,h3]
theorem NS{s:Bytes}(h1:∀ x,s.head? = some x->¬ b2 x<=32)(h2:∀ x,s.getLast? = some x->¬ b2 x<=32):trimF s=s:=by
 have key:∀ l:Bytes,(∀x,l.head? = some x->¬ b2 x<=32)->l.dropWhile (fun c=>decide (b2 c<=32))=l:=by
  intro l hl;cases l with
  |nil=>rfl
  |cons x r=>rw[bn (by simpa using hl x rfl)]
 unfold trimF;rw[key s h1,key s.reverse (by intro x hx;rw[List.head?_reverse]at hx;exact h2 x hx),b4p]
theorem Gd{s:Bytes}(h:∀ y∈s,32<=b2 y)(h1:∀ x,s.head? = some x->¬ b2 x<=32)(h2:∀ x,s.getLast? = some x->¬ b2 x<=32):eh s=s:=by
 unfold eh;rw[NS h1 h2,Iw];intro y hy;have:=h y hy;refine⟨?_,?_,?_⟩ <;>rintro rfl <;>revert this <;>decide
theorem vh(sp:Bool):∀ s,∃p ps,fO sp s=p::ps
 | []=>⟨_,_,rfl⟩
 |c::t=>by
  rw[fO]
  split
  ·exact⟨_,_,rfl⟩
  obtain⟨p,ps,h⟩:=vh sp t;rw[h];exact⟨_,_,rfl⟩
theorem xG{sp:Bool}{p:Bytes}(h:∀ y∈p,ks sp y=false):fO sp p=[p]:=by
 induction p with
 |nil=>rfl
 |cons x r ih =>
  rw[fO,if_neg (by rw[h x (by simp)];simp),ih (fun y hy=>h y (by simp[hy]))]
theorem EJ{sp:Bool}{p:Bytes}(h:∀ y∈p,ks sp y=false)(t:Bytes):fO sp (p++47::t)=p::fO sp t:=by
 induction p with
 |nil=>rw[bJ,fO,if_pos (by rfl)]
 |cons x r ih =>
  rw[bd,fO,if_neg (by rw[h x (by simp)];simp),ih (fun y hy=>h y (by simp[hy]))]
theorem s7{sp:Bool}:∀ (p:Bytes) (ps:List Bytes),(∀q∈p::ps,∀y∈q,ks sp y=false)->fO sp (p++bF ps)=p::ps
 |p,[],h=>by
  have e:bF []=[]:=rfl;rw[e,aG,xG (h p (by simp))]
 |p,q::r,h=>by
  have e:bF (q::r)=47::(q++bF r):=by simp[bF]
  rw[e,EJ (h p (by simp)),s7 q r (fun z hz=>h z (by simp only[aj]at hz ⊢;exact .inr hz))]

theorem M9:∀ k:Fin 256,(tW 4 (UInt8.ofNat k.val)).all (fun y=>!ip 4 (b2 y)&&(y==UInt8.ofNat k.val||y==37||(decide (48<=b2 y∧b2 y<=57)||decide (65<=b2 y∧b2 y<=70))))=true:=by decide +kernel
theorem Ks{l:Bytes}{y:UInt8}(h:y∈dq 4 l):ip 4 (b2 y)=false∧(y∈l∨y=37∨(48<=b2 y∧b2 y<=57)∨(65<=b2 y∧b2 y<=70)):=by
 obtain⟨x,hx,hy⟩:=cT.mp h;have hf:=M9 ⟨x.toNat,x.toNat_lt⟩;simp only[cM]at hf;have:=bo.mp hf y hy;simp only[bD,fF,jI,beq_iff_eq,decide_eq_true_eq]at this;obtain⟨h1,h2⟩:=this;refine⟨h1,?_⟩;rcases h2 with(h2|h2)|h2
 ·exact .inl (h2▸hx)
 ·exact .inr (.inl h2)
 exact .inr (.inr h2)
theorem SQ(l:Bytes):dq 4 (dq 4 l)=dq 4 l:=rX fun _ hy=>(Ks hy).1
theorem xI(sp:Bool):ks sp 47=true:=rfl
theorem a1f{sp:Bool}{l:Bytes}(h:∀ y∈l,ks sp y=false):∀ y∈dq 4 l,ks sp y=false:=by
 intro y hy;rcases(Ks hy).2 with h1|h1|h1
 ·exact h y h1
 ·subst h1;cases sp <;>rfl
 have e47:b2 47=47:=by decide
 have e92:b2 92=92:=by decide
 have n1:y≠47:=fun e=>by rw[e]at h1;omega
 have n2:y≠92:=fun e=>by rw[e]at h1;omega
 unfold ks;simp[n1,n2]
theorem ix(set:Int)(c:UInt8)(t:Bytes):dq set (c::t)=tW set c++dq set t:=by unfold dq;simp
theorem xk{set:Int}{c:UInt8}(h:ip set (b2 c)=true):tW set c=[37,p8 (c.toNat/16),p8 (c.toNat%16)]:=by unfold tW;rw[if_pos h]
theorem kP{set:Int}{c:UInt8}(h:ip set (b2 c)=false):tW set c=[c]:=by unfold tW;rw[if_neg (by simp[h])]
theorem Mx:∀ k:Fin 256,ip 4 (b2 (UInt8.ofNat k.val))=true->UInt8.ofNat k.val≠46∧UInt8.ofNat k.val≠37∧UInt8.ofNat k.val≠50∧UInt8.ofNat k.val≠101∧UInt8.ofNat k.val≠69∧(p8 (k.val/16)=50->p8 (k.val%16)≠101∧p8 (k.val%16)≠69):=by decide +kernel
theorem a0W{c:UInt8}(h:ip 4 (b2 c)=true):c≠46∧c≠37∧c≠50∧c≠101∧c≠69∧(p8 (c.toNat/16)=50->p8 (c.toNat%16)≠101∧p8 (c.toNat%16)≠69):=by
 have:=Mx ⟨c.toNat,c.toNat_lt⟩;simp only[cM]at this;exact this h
theorem FT(t:Bytes):jj (46::t)=some t:=by unfold jj;dsimp only;rw[if_pos rfl]
theorem kV{c:UInt8}(h1:c≠46)(h2:c≠37)(t:Bytes):jj (c::t)=none:=by
 unfold jj;dsimp only;rw[if_neg h1]
 split
 ·next h=>exact absurd rfl h2
 rfl
theorem pB(y:UInt8)(r:Bytes):jj (37::50::y::r)=if y=101∨y=69 then some r else none:=by
 unfold jj;dsimp only;rw[if_neg (by decide)];rfl
theorem oz{d:UInt8}(h:d≠50)(t:Bytes):jj (37::d::t)=none:=by
 unfold jj;dsimp only;rw[if_neg (by decide)]
 split
 ·rename_i heq
  first
   |(injection heq with e1 e2;exact absurd e1 h)
   |exact absurd heq h
 rfl
theorem Pu:∀ p:Bytes,jj (dq 4 p)=(jj p).map (dq 4)
 | []=>rfl
 |c::t=>by
  cases hc:ip 4 (b2 c)with
  |true =>
   obtain⟨h1,h2,_,_,_,h6⟩:=a0W hc;rw[ix,xk hc,kV h1 h2];show jj (37::p8 (c.toNat/16)::p8 (c.toNat%16)::dq 4 t)=none;by_cases h50:p8 (c.toNat/16)=50
   ·rw[h50,pB,if_neg (by have:=h6 h50;simp[this.1,this.2])]
   exact oz h50 _
  |false =>
   rw[ix,kP hc];show jj (c::dq 4 t)=_;by_cases h46:c=46
   ·subst h46;rw[FT,FT];rfl
   by_cases h37:c=37
   ·subst h37
    cases t with
    |nil=>rfl
    |cons d t2 =>
     by_cases hd:d=50
     ·subst hd
      have e50:ip 4 (b2 50)=false:=by decide
      rw[ix,kP e50];show jj (37::50::dq 4 t2)=_;cases t2 with
      |nil=>rfl
      |cons y r =>
       rw[pB];by_cases hy:y=101∨y=69
       ·have ey:ip 4 (b2 y)=false:=by rcases hy with rfl|rfl <;>decide
        rw[if_pos hy,ix,kP ey];show jj (37::50::y::dq 4 r)=_;rw[pB,if_pos hy];rfl
       rw[if_neg hy,ix];cases hi:ip 4 (b2 y)with
       |true =>
        rw[xk hi];show jj (37::50::37::_)=none;rw[pB,if_neg (by decide)]
       |false =>
        rw[kP hi];show jj (37::50::y::_)=none;rw[pB,if_neg hy]
     rw[oz hd,ix];cases hi:ip 4 (b2 d)with
     |true =>
      rw[xk hi];exact oz (by decide) _
     |false =>
      rw[kP hi];exact oz hd _
   rw[kV h46 h37,kV h46 h37];rfl
theorem WP{l:Bytes}:dq 4 l=[] ↔ l=[]:=by
 constructor
 ·intro h
  cases l with
  |nil=>rfl
  |cons c t =>
   rw[ix]at h;have:=(mm.mp h).1;unfold tW at this
   split at this <;>cases this
 rintro rfl;rfl
theorem Qg(p:Bytes):ll (dq 4 p)=ll p:=by
 unfold ll;rw[Pu];cases jj p with
 |none=>rfl
 |some r =>
  rw[cK];simp only[yw,beq_iff_eq,dA];exact WP
theorem VI(p:Bytes):kz (dq 4 p)=kz p:=by
 unfold kz;rw[Pu];cases jj p with
 |none=>rfl
 |some r=>exact Qg r

structure uR (sp:Bool) (p:Bytes):Prop where
 e:dq 4 p=p
 s:∀ y∈p,ks sp y=false
 d:ll p=false
 dd:kz p=false
theorem Ku(sp:Bool):uR sp []:=⟨rfl,fun _ h=>(by cases h),rfl,rfl⟩
theorem a1i{sp:Bool}{p:Bytes}(hs:∀ y∈p,ks sp y=false)(h1:ll p=false)(h2:kz p=false):uR sp (dq 4 p) :=
 ⟨SQ p,a1f hs,by rw[Qg];exact h1,by rw[VI];exact h2⟩
theorem LP{sp:Bool}{p:Bytes}(h:dg p=true):uR sp (p.take 1++[58]):=by
 match p,h with
 | [a,b],h =>
  have key:∀ k:Fin 256,iP (b2 (UInt8.ofNat k.val))=true->ip 4 (b2 (UInt8.ofNat k.val))=false∧UInt8.ofNat k.val≠47∧UInt8.ofNat k.val≠92∧UInt8.ofNat k.val≠46∧UInt8.ofNat k.val≠37:=by decide +kernel
  have ha:iP (b2 a)=true:=by
   unfold dg at h;rw[bD]at h;exact h.1
  have hk:=key ⟨a.toNat,a.toNat_lt⟩;simp only[cM]at hk;obtain⟨h1,h2,h3,h4,h5⟩:=hk ha;have e58:ip 4 (b2 58)=false:=by decide
  show uR sp [a,58];refine⟨?_,?_,?_,?_⟩
  ·rw[ix,kP h1,ix,kP e58];rfl
  ·intro y hy
   simp only[aj,bl,or_false]at hy;rcases hy with rfl|rfl
   ·unfold ks;simp[h2,h3]
   cases sp <;>rfl
  ·unfold ll;rw[kV h4 h5];rfl
  unfold kz;rw[kV h4 h5]
theorem k5{aH:Bytes}{p:List Bytes}{x:Bytes}(h:x∈cI aH p):x∈p:=by
 match p,h with
 | [],h=>cases h
 | [y],h =>
  unfold cI at h;dsimp only at h
  split at h
  ·exact h
  cases h
 |y::z::r,h=>exact ot _ h
theorem EI{aH:Bytes}{sp:Bool}{out:List Bytes}{p:Bytes}{last:Bool}(ho:∀ x∈out,uR sp x)(hp:∀ y∈p,ks sp y=false):∀ x∈jV aH out p last,uR sp x:=by
 have app:∀ (l:List Bytes) (q:Bytes),(∀x∈l,uR sp x)->uR sp q->∀ x∈l++[q],uR sp x:=by
  intro l q hl hq x hx;rcases au.mp hx with hx|hx
  ·exact hl x hx
  rw[bE.mp hx];exact hq
 have sh:∀ x∈cI aH out,uR sp x:=fun x hx=>ho x (k5 hx);unfold jV
 split
 ·split
  ·exact app _ _ sh (Ku sp)
  exact sh
 next hdd =>
 split
 ·split
  ·exact app _ _ ho (Ku sp)
  exact ho
 next hd =>
 split
 ·next hf=>exact app _ _ ho (LP hf.2.2)
 exact app _ _ ho (a1i hp (by simpa using hd) (by simpa using hdd))
theorem zO{aH:Bytes}{sp:Bool}:∀ (ps out:List Bytes),(∀x∈out,uR sp x)->(∀p∈ps,∀y∈p,ks sp y=false)->∀ x∈ji aH out ps,uR sp x
 | [],out,ho,_=>ho
 | [p],out,ho,hp=>EI ho (hp p (by simp))
 |p::q::r,out,ho,hp=>zO (q::r) _ (EI ho (hp p (by simp))) (fun z hz=>hp z (by simp only[aj]at hz ⊢;exact .inr hz))
theorem KE{sp:Bool}:∀ s:Bytes,∀p∈fO sp s,∀y∈p,ks sp y=false
 | [],p,h,y,hy=>by
  have:p=[]:=by simpa[fO]using h
  subst this;cases hy
 |c::t,p,h,y,hy=>by
  have ih:=KE (sp:=sp) t;rw[fO]at h
  split at h
  ·rcases aj.mp h with rfl|h
   ·cases hy
   exact ih p h y hy
  next hc =>
  obtain⟨q,qs,hq⟩:=vh sp t;rw[hq]at h ih;rcases aj.mp h with rfl|h
  ·rcases aj.mp hy with rfl|hy
   ·simpa using hc
   exact ih q (by simp) y hy
  exact ih p (by simp[h]) y hy
theorem jG{aH:Bytes}{path:List Bytes}{s:Bytes}(h:∀ x∈path,uR (eK aH) x):∀ x∈dc aH path s,uR (eK aH) x :=
 zO _ _ h (KE s)
theorem Xa{aH:Bytes}{out:List Bytes}{p:Bytes}:jV aH out p true ≠ []:=by
 unfold jV
 split
 ·rw[if_pos rfl];simp
 split
 ·rw[if_pos rfl];simp
 split <;>simp
theorem EG{aH:Bytes}:∀ (ps out:List Bytes),ps ≠ []->ji aH out ps ≠ []
 | [],_,h=>absurd rfl h
 | [p],out,_=>Xa
 |p::q::r,out,_=>EG (q::r) _ (by simp)
theorem kQ{aH:Bytes}{path:List Bytes}{s:Bytes}:dc aH path s ≠ []:=by
 unfold dc;refine EG _ _ ?_;obtain⟨p,ps,h⟩:=vh (eK aH) s;rw[h];simp
theorem Hj{p:Bytes}(h:iQ p=true):p.take 1++[58]=p:=by
 match p,h with
 | [a,b],h =>
  unfold iQ at h;rw[bD,beq_iff_eq]at h;rw[h.2];rfl
theorem zQ{aH:Bytes}{out:List Bytes}{p:Bytes}(hp:uR (eK aH) p)(hd:aH=aW->out=[]->dg p=true->iQ p=true)(last:Bool):jV aH out p last=out++[p]:=by
 unfold jV;rw[if_neg (by rw[hp.dd];simp),if_neg (by rw[hp.d];simp)]
 split
 ·next h=>rw[Hj (hd h.1 h.2.1 h.2.2)]
 rw[hp.e]
theorem q8{aH:Bytes}:∀ (ps out:List Bytes),(∀x∈ps,uR (eK aH) x)->(∀p,ps.head? = some p->aH=aW->out=[]->dg p=true->iQ p=true)->ji aH out ps=out++ps
 | [],out,_,_=>by rw[ji,aG]
 | [p],out,hp,hd=>by rw[ji,zQ (hp p (by simp)) (hd p rfl)]
 |p::q::r,out,hp,hd=>by
  rw[ji,zQ (hp p (by simp)) (hd p rfl),q8 (q::r) _ (fun x hx=>hp x (by simp only[aj]at hx ⊢;exact .inr hx)) (fun _ _ _ h=>absurd h (by simp)),aT];rfl
theorem zP{aH:Bytes}{p:Bytes}{ps:List Bytes}(hp:∀ x∈p::ps,uR (eK aH) x)(hd:aH=aW->dg p=true->iQ p=true):dc aH [] (p++bF ps)=p::ps:=by
 unfold dc;rw[s7 p ps (fun q hq=>(hp q hq).s),q8 _ _ hp (fun q hq h1 _=>by injection hq with hq;rw[<-hq];exact hd h1),bJ]

def gT(aH:Bytes)(out:List Bytes):Prop:=aH=aW->∀ p,out.head? = some p->dg p=true->iQ p=true
theorem YI(set:Int):∀ l:Bytes,l.length<=(dq set l).length
 | []=>aK _
 |c::t=>by
  have:=YI set t;rw[ix,ae,ag];have:1<=(tW set c).length:=by unfold tW;split <;>simp
  omega
theorem Qi{p:Bytes}(h:dg (dq 4 p)=true):dg p=true:=by
 cases p with
 |nil=>exact h
 |cons a t =>
  rw[ix]at h;cases ha:ip 4 (b2 a)with
  |true =>
   rw[xk ha]at h;cases ht:dq 4 t with
   |nil=>rw[ht]at h;cases h
   |cons x r=>rw[ht]at h;cases h
  |false =>
   rw[kP ha]at h;cases t with
   |nil=>cases h
   |cons b t2 =>
    rw[ix]at h;cases hb:ip 4 (b2 b)with
    |true =>
     rw[xk hb]at h;cases h
    |false =>
     rw[kP hb]at h;cases t2 with
     |nil=>exact h
     |cons c t3 =>
      have hl:=YI 4 (c::t3);cases hc:dq 4 (c::t3)with
      |nil=>rw[hc]at hl;simp at hl
      |cons x r=>rw[hc]at h;cases h
theorem pH{aH:Bytes}{out:List Bytes}{q:Bytes}(h:gT aH out)(hq:aH=aW->out=[]->dg q=true->iQ q=true):gT aH (out++[q]):=by
 intro hs p hp hd;cases out with
 |nil =>
  injection hp with hp
  subst hp;exact hq hs rfl hd
 |cons x r =>
  rw[bd]at hp;exact h hs p hp hd
theorem lQ{aH:Bytes}{out:List Bytes}(h:gT aH out):gT aH (cI aH out):=by
 match out,h with
 | [],h=>exact h
 | [y],h =>
  unfold cI;dsimp only
  split
  ·exact h
  intro _ p hp;cases hp
 |y::z::r,h =>
  intro hs p hp hd;refine h hs p ?_ hd;have e:cI aH (y::z::r)=y::(z::r).dropLast:=rfl;rw[e]at hp;exact hp
theorem xF{aH:Bytes}{out:List Bytes}{p:Bytes}{last:Bool}(h:gT aH out):gT aH (jV aH out p last):=by
 unfold jV
 split
 ·split
  ·exact pH (lQ h) (fun _ _ hd=>by cases hd)
  exact lQ h
 split
 ·split
  ·exact pH h (fun _ _ hd=>by cases hd)
  exact h
 split
 ·next hf =>
  refine pH h (fun _ _ _=>?_);have hd:=hf.2.2
  match p,hd with
  | [a,b],hd =>
   unfold dg at hd;rw[bD]at hd;show iQ [a,58]=true;show(iP (b2 a)&&(58:UInt8)==58)=true;rw[hd.1];rfl
 next hf=>exact pH h (fun hs ho hd=>absurd ⟨hs,ho,Qi hd⟩ hf)
theorem ug{aH:Bytes}:∀ (ps out:List Bytes),gT aH out->gT aH (ji aH out ps)
 | [],_,h=>h
 | [_],_,h=>xF h
 |_::q::r,_,h=>ug (q::r) _ (xF h)
theorem fV{aH:Bytes}{path:List Bytes}{s:Bytes}(h:gT aH path):gT aH (dc aH path s):=ug _ _ h

def vn(s:Bytes):Prop:=qZ s=true∧s.map dF=s
theorem MS:∀ k:Fin 256,lL (b2 (UInt8.ofNat k.val))=true->lL (b2 (dF (UInt8.ofNat k.val)))=true∧(iP (b2 (UInt8.ofNat k.val))=true->iP (b2 (dF (UInt8.ofNat k.val)))=true)∧dF (dF (UInt8.ofNat k.val))=dF (UInt8.ofNat k.val)∧UInt8.ofNat k.val≠58∧UInt8.ofNat k.val≠35∧UInt8.ofNat k.val≠63∧32<b2 (UInt8.ofNat k.val)∧b2 (UInt8.ofNat k.val)<=126:=by decide +kernel
theorem sW{c:UInt8}(h:lL (b2 c)=true):lL (b2 (dF c))=true∧(iP (b2 c)=true->iP (b2 (dF c))=true)∧dF (dF c)=dF c∧c≠58∧c≠35∧c≠63∧32<b2 c∧b2 c<=126:=by
 have:=MS ⟨c.toNat,c.toNat_lt⟩;simp only[cM]at this;exact this h
theorem BE{s:Bytes}(h:qZ s=true):∀ y∈s,lL (b2 y)=true:=by
 cases s with
 |nil=>cases h
 |cons c t =>
  unfold qZ at h;rw[bD]at h;intro y hy;rcases aj.mp hy with rfl|hy
  ·unfold lL;rw[h.1];rfl
  exact bo.mp h.2 y hy
theorem W9{s:Bytes}(h:qZ s=true):vn (s.map dF):=by
 have ha:=BE h;refine⟨?_,?_⟩
 ·cases s with
  |nil=>cases h
  |cons c t =>
   unfold qZ at h;rw[bD]at h;show(iP (b2 (dF c))&&(t.map dF).all fun y=>lL (b2 y))=true;rw[bD];refine⟨(sW (ha c (by simp))).2.1 h.1,bo.mpr fun y hy=>?_⟩;obtain⟨x,hx,rfl⟩:=cm.mp hy;exact(sW (ha x (by simp[hx]))).1
 rw[gP];refine eN fun x hx=>?_;exact(sW (ha x hx)).2.2.1
theorem a1x{s:Bytes}(h:qZ s=true):(58:UInt8)∉s∧(35:UInt8)∉s∧(63:UInt8)∉s:=by
 have ha:=BE h;refine⟨fun hm=>?_,fun hm=>?_,fun hm=>?_⟩
 ·exact(sW (ha _ hm)).2.2.2.1 rfl
 ·exact(sW (ha _ hm)).2.2.2.2.1 rfl
 exact(sW (ha _ hm)).2.2.2.2.2.1 rfl
theorem Tm{aH rest q f:Bytes}{hq hf:Bool}(hs:vn aH)(h1:(35:UInt8)∉rest∧(63:UInt8)∉rest)(h2:(35:UInt8)∉q)(h3:hq=false->q=[])(h4:hf=false->f=[]) :
  fc (aH++[58]++rest++(if hq=true then 63::q else [])++(if hf=true then 35::f else []))=⟨true,aH,rest,hq,q,hf,f⟩:=by
 obtain⟨n1,n2,n3⟩:=a1x hs.1
 have hA:(35:UInt8)∉aH++[58]++rest++(if hq=true then 63::q else []):=by
  cases hq
  ·simp[n2,h1.1]
  simp[n2,h1.1,h2]
 have hB:(63:UInt8)∉aH++[58]++rest:=by simp[n3,h1.2]
 have e1:bY 35 (aH++[58]++rest++(if hq=true then 63::q else [])++(if hf=true then 35::f else []))=(aH++[58]++rest++(if hq=true then 63::q else []),f,hf):=by
  generalize aH++[58]++rest++(if hq=true then 63::q else [])=A at hA;cases hf
  ·show bY 35 (A++[])=_
   rw[aG,pD hA,h4 rfl]
  exact ng _ _ hA
 have e2:bY 63 (aH++[58]++rest++(if hq=true then 63::q else []))=(aH++[58]++rest,q,hq):=by
  generalize aH++[58]++rest=A at hB;cases hq
  ·show bY 63 (A++[])=_
   rw[aG,pD hB,h3 rfl]
  exact ng _ _ hB
 have e3:bY 58 (aH++[58]++rest)=(aH,rest,true):=by
  rw[aT,yI,ng _ _ n1]
 unfold fc;simp only[e1,e2,e3];rw[if_pos ⟨by trivial,hs.1⟩,hs.2]

theorem Je{sp:Bool}{a t:Bytes}(ha:∀ y∈a,ks sp y=false)(ht:t=[]∨∃ r,t=47::r):dO sp (a++t)=(a,t):=by
 unfold dO;have h1:∀ y∈a,(!ks sp y)=true:=fun y hy=>by rw[ha y hy];rfl
 rcases ht with rfl|⟨r,rfl⟩
 ·have e1:=pz (p:=fun c=>!ks sp c) (l₁:=a) (l₂:=[]) h1
  have e2:=pr (p:=fun c=>!ks sp c) (l₁:=a) (l₂:=[]) h1;rw[e1,e2];simp
 have e:(!ks sp 47)=false:=rfl;rw[pz h1,pr h1,aX (by simp[e]),bn (by simp[e]),aG]
theorem wU(l:List Bytes):bF l=[]∨∃ r,bF l=47::r:=by
 cases l with
 |nil=>exact .inl rfl
 |cons p r=>exact .inr ⟨p++bF r,by simp[bF]⟩
theorem MJ{l:List Bytes}:bF l=[] ↔ l=[]:=by
 cases l with
 |nil=>simp[bF]
 |cons p r=>simp[bF]
theorem xh{aH:Bytes}{l:List Bytes}(hp:∀ x∈l,uR (eK aH) x)(hd:gT aH l)(hn:l ≠ []):gE aH (bF l)=l:=by
 cases l with
 |nil=>exact absurd rfl hn
 |cons p r =>
  have e:bF (p::r)=47::(p++bF r):=by simp[bF]
  unfold gE
  have hsl:0<ra (eK aH) (47::(p++bF r)):=by
   unfold ra;rw[aY (by rfl)];simp
  rw[e,if_pos hsl];show dc aH [] (p++bF r)=_;exact zP hp (fun h1 h2=>hd h1 p rfl h2)

def Enc(set:Int):Prop:=∀ k:Fin 256,(tW set (UInt8.ofNat k.val)).all (fun y=>!ip set (b2 y)&&decide (32<b2 y∧b2 y<=126))=true
theorem enc1:Enc 1:=by unfold Enc;decide +kernel
theorem enc2:Enc 2:=by unfold Enc;decide +kernel
theorem enc3:Enc 3:=by unfold Enc;decide +kernel
theorem enc4:Enc 4:=by unfold Enc;decide +kernel
theorem a33:Enc 5:=by unfold Enc;decide +kernel
theorem qJ{set:Int}(h:Enc set){l:Bytes}:∀ y∈dq set l,ip set (b2 y)=false∧32<b2 y∧b2 y<=126:=by
 intro y hy;obtain⟨x,_,hy⟩:=cT.mp hy;have hf:=h ⟨x.toNat,x.toNat_lt⟩;simp only[cM]at hf;have:=bo.mp hf y hy
 simpa using this
theorem vT{set:Int}(h:Enc set)(l:Bytes):dq set (dq set l)=dq set l:=rX fun y hy=>(qJ h y hy).1
def Nw(aH:Bytes):Int:=if eK aH=true then 3 else 2
theorem EP(aH:Bytes):Enc (Nw aH):=by
 unfold Nw
 split
 ·exact enc3
 exact enc2
def jS(c:UInt8):Bool:=decide (b2 c<=32)
def rV(c:UInt8):Bool:=!(c==9||c==10||c==13)
theorem Sr{c:UInt8}(h:rV c=false):jS c=true:=by
 unfold rV at h;simp only[Bool.not_eq_false',fF,beq_iff_eq]at h;rcases h with(rfl|rfl)|rfl <;>decide
theorem lO:∀ s:Bytes,(s.filter rV).dropWhile jS=(s.dropWhile jS).filter rV
 | []=>rfl
 |c::t=>by
  cases hp:jS c with
  |true =>
   rw[aU hp];cases hq:rV c with
   |true=>rw[bk hq,aU hp,lO t]
   |false=>rw[bj (by simp[hq]),lO t]
  |false =>
   have hq:rV c=true:=by
    cases h:rV c with
    |true=>rfl
    |false=>rw[Sr h]at hp;cases hp
   rw[bn (by simp[hp]),bk hq,bn (by simp[hp])]
theorem PQ(s:Bytes):eh s=trimF (iH s):=by
 show(((s.dropWhile jS).reverse.dropWhile jS).reverse).filter rV=(((s.filter rV).dropWhile jS).reverse.dropWhile jS).reverse;rw[lO,<-List.filter_reverse,lO,List.filter_reverse]
theorem Gl(p:UInt8->Bool)(l:Bytes):∀ x,(l.dropWhile p).head? = some x->p x=false:=by
 induction l with
 |nil=>intro x h;cases h
 |cons c t ih =>
  intro x h;cases hp:p c with
  |true=>rw[aU hp]at h;exact ih x h
  |false =>
   rw[bn (by simp[hp])]at h;injection h with h
   rw[<-h];exact hp
theorem nl(p:UInt8->Bool)(l:Bytes):∃ a,l=a++l.dropWhile p:=⟨l.takeWhile p,(eT).symm⟩
theorem NR(s:Bytes):∀ x,(trimF s).getLast? = some x->¬ b2 x<=32:=by
 intro x h;unfold trimF at h;rw[List.getLast?_reverse]at h;have:=Gl _ _ x h
 simpa using this
theorem Gb(s:Bytes):∀ x,(eh s).getLast? = some x->¬ b2 x<=32:=by rw[PQ];exact NR _
structure tJ (p:lH):Prop where
 s:p.iO=true->vn p.aH
 q:p.bS=false->p.q=[]
 f:p.bZ=false->p.f=[]
 r:(35:UInt8)∉p.rest∧(63:UInt8)∉p.rest
 e:p.bS=false->p.bZ=false->p.rest.getLast? ≠ some 32
theorem vx{c y:UInt8}{s:Bytes}(h:y∈(bY c s).1∨y∈(bY c s).2.1):y∈s:=by
 rw[nd c s];rcases h with h|h
 ·exact b4o _ h
 by_cases hf:(bY c s).2.2=true
 ·rw[if_pos hf];exact b2Z _ (be _ h)
 rw[ij c s (by simpa using hf)]at h;cases h
theorem CV{c:UInt8}{s:Bytes}(h:(bY c s).2.2=false):(bY c s).1=s:=by
 have:=nd c s;rw[if_neg (by simp[h]),aG]at this;exact this.symm
theorem Tp(c:Bytes)(hl:∀ x,c.getLast? = some x->¬ b2 x<=32):tJ (fc c):=by
 have n1:=AE 35 c;have n2:=AE 63 (bY 35 c).1;have key:(bY 35 c).2.2=false->(bY 63 (bY 35 c).1).2.2=false->(bY 63 (bY 35 c).1).1=c:=fun h1 h2=>(CV h2).trans (CV h1);have hm:∀ y,y∈(bY 63 (bY 35 c).1).1->y∈(bY 35 c).1:=fun y hy=>vx (.inl hy);have hb:=nd 58 (bY 63 (bY 35 c).1).1;unfold fc;dsimp only
 split
 ·next hc =>
  refine⟨fun _=>W9 hc.2,ij 63 _,ij 35 _,⟨fun h=>n1 (hm _ (vx (.inr h))),fun h=>n2 (vx (.inr h))⟩,fun h1 h2 h3=>?_⟩;have e:=key h2 h1;rw[if_pos hc.1]at hb
  have:c.getLast? = some 32:=by
   rw[<-e,hb,fq,List.getLast?_cons];rw[h3];rfl
  exact hl _ this (by decide)
 refine⟨fun h=>(by cases h),ij 63 _,ij 35 _,⟨fun h=>n1 (hm _ h),n2⟩,fun h1 h2 h3=>?_⟩;have e:=key h2 h1;rw[e]at h3;exact hl _ h3 (by decide)
theorem SW(s:Bytes):tJ (fc (eh s)):=Tp _ (Gb s)
def Sg:Bytes:=[108,111,99,97,108,104,111,115,116]
def fQ(u:Url):mq:=⟨u.usr,u.fp,u.host,u.bq,u.port⟩
structure yK (v:Url):Prop where
 u:v.usr=[]
 p:v.fp=[]
 h:v.bq=false
 n:v.port=0
inductive Body (u:Url):Prop where
 |opq (h1:u.opq=true) (h2:eK u.aH=false) (h3:u.host=H0) (h4:u.path=[]) (h5:yK u) (h7:dq 0 u.flat=u.flat) (h8:u.flat.head? ≠ some 47) (h9:u.flat.getLast? ≠ some 32) (h10:(35:UInt8)∉u.flat∧(63:UInt8)∉u.flat)
 |none (h1:u.opq=false) (h2:eK u.aH=false) (h3:u.host=H0) (h5:yK u) (hp:u.path ≠ [])
 |file (h1:u.opq=false) (hs:u.aH=aW) (h3:u.host={H0 with kind:=1}∨∃ n,n ≠ []∧dh n true=some u.host∧¬ (u.host.kind=2∧u.host.name=Sg)) (h5:yK u) (hp:u.path ≠ [])
 |asked (h1:u.opq=false) (hs:u.aH≠aW) (ha:KY u.aH (fQ u)) (hp:eK u.aH=true->u.path ≠ [])
structure Good (u:Url):Prop where
 aH:vn u.aH
 q:u.bS=false->u.q=[]
 qe:dq (Nw u.aH) u.q=u.q
 f:u.bZ=false->u.f=[]
 fe:dq 1 u.f=u.f
 pc:∀ x∈u.path,uR (eK u.aH) x
 fi:gT u.aH u.path
 fl:u.opq=false->u.flat=[]
 body:Body u
structure HdU (aH:Bytes) (u:Url):Prop where
 q:u.bS=false->u.q=[]
 qe:dq (Nw aH) u.q=u.q
 f:u.bZ=false->u.f=[]
 fe:dq 1 u.f=u.f
theorem rL{p:lH}(hp:tJ p)(aH:Bytes):HdU aH (dj aH p):=by
 refine⟨fun h=>?_,?_,fun h=>?_,?_⟩
 ·show dq _ p.q=[]
  rw[hp.q h];rfl
 ·exact vT (EP aH) p.q
 ·show dq 1 p.f=[]
  rw[hp.f h];rfl
 exact vT enc1 p.f
theorem il(aH:Bytes):gT aH []:=fun _ _ h=>(by cases h)
theorem pL{aH s:Bytes}:∀ x∈gE aH s,uR (eK aH) x:=jG (fun _ h=>(by cases h))
theorem lV{aH s:Bytes}:gT aH (gE aH s):=fV (il aH)
theorem rW{aH s:Bytes}:gE aH s ≠ []:=kQ
theorem ru{aH s:Bytes}{p:lH}{u:Url}(hp:tJ p)(hs:vn aH)(hf:aH≠aW)(h:kf (dj aH p) s=some u):Good u:=by
 have hd:=rL hp aH;unfold kf at h;dsimp only at h;have e0:(dj aH p).aH=aH:=rfl;rw[e0]at h;cases ha:kg aH (dO (eK aH) s).1 with
 |none=>rw[ha]at h;cases h
 |some a =>
  rw[ha]at h;injection h with h
  have hok:=Jk ha;by_cases hc:eK aH=true∨(dO (eK aH) s).2 ≠ []
  ·rw[if_pos hc]at h
   subst h;exact⟨hs,hd.q,hd.qe,hd.f,hd.fe,pL,lV,fun _=>rfl,.asked rfl hf hok (fun _=>rW)⟩
  rw[if_neg hc]at h;subst h;refine⟨hs,hd.q,hd.qe,hd.f,hd.fe,fun _ h=>(by cases h),il _,fun _=>rfl,.asked rfl hf hok (fun h=>absurd (.inl h) hc)⟩
theorem oH:eK aW=true:=by decide
theorem Qu:vn aW:=by constructor <;>decide
structure Oy (u:Url):Prop where
 h3:u.host={H0 with kind:=1}∨∃ n,n ≠ []∧dh n true=some u.host∧¬ (u.host.kind=2∧u.host.name=Sg)
 h5:yK u
theorem gB{u:Url}(hd:HdU aW u)(e:u.aH=aW)(h1:u.opq=false)(hfl:u.flat=[])(ok:Oy u)(hpc:∀ x∈u.path,uR (eK aW) x)(hfi:gT aW u.path)(hne:u.path ≠ []):Good u :=
 ⟨by rw[e];exact Qu,hd.q,by rw[e];exact hd.qe,hd.f,hd.fe,by rw[e];exact hpc,by rw[e];exact hfi,fun _=>hfl,.file h1 e ok.h3 ok.h5 hne⟩
theorem Hf{u0 u:Url}{s:Bytes}(hd:HdU aW u0)(e:u0.aH=aW)(h1:u0.opq=false)(hfl:u0.flat=[])(hw:yK u0)(hh:u0.host={H0 with kind:=1})(h:iF u0 s=some u):Good u:=by
 have hd2:HdU aW u0:=hd;unfold iF at h;dsimp only at h;rw[e]at h
 split at h
 ·injection h with h
  subst h;exact gB ⟨hd.q,hd.qe,hd.f,hd.fe⟩ rfl h1 hfl ⟨.inl hh,⟨hw.u,hw.p,hw.h,hw.n⟩⟩ (jG (fun _ h=>(by cases h))) (fV (il _)) kQ
 split at h
 ·injection h with h
  subst h;exact gB ⟨hd.q,hd.qe,hd.f,hd.fe⟩ rfl h1 hfl ⟨.inl hh,⟨hw.u,hw.p,hw.h,hw.n⟩⟩ pL lV rW
 next hne =>
 cases hg:dh (dO true s).1 true with
 |none=>rw[hg]at h;cases h
 |some g =>
  rw[hg]at h;injection h with h
  by_cases hl:g.kind=2∧g.name=[108,111,99,97,108,104,111,115,116]
  ·rw[if_pos hl]at h
   subst h;exact gB ⟨hd.q,hd.qe,hd.f,hd.fe⟩ rfl h1 hfl ⟨.inl hh,⟨hw.u,hw.p,hw.h,hw.n⟩⟩ pL lV rW
  rw[if_neg hl]at h;subst h;exact gB ⟨hd.q,hd.qe,hd.f,hd.fe⟩ rfl h1 hfl ⟨.inr ⟨_,hne,hg,hl⟩,⟨hw.u,hw.p,hw.h,hw.n⟩⟩ pL lV rW
theorem DJ{b:Url}(hb:Good b)(e:b.aH=aW):Oy b∧b.path ≠ []:=by
 cases hb.body with
 |opq h1 h2=>rw[e,oH]at h2;cases h2
 |none h1 h2=>rw[e,oH]at h2;cases h2
 |file h1 hs h3 h5 hp=>exact⟨⟨h3,h5⟩,hp⟩
 |asked h1 hs=>exact absurd e hs
theorem rU{sp:Bool}:∀ x∈([]:List Bytes),uR sp x:=fun _ h=>(by cases h)
theorem Wl(c:Prop) [Decidable c] {l:List Bytes} {x:Bytes} (h:x∈if c then l.take 1 else []):x∈l:=by
 by_cases hc:c
 ·rw[if_pos hc]at h;exact Cf h
 rw[if_neg hc]at h;cases h
theorem Rq(c:Prop) [Decidable c] {aH:Bytes} {l:List Bytes} (h:gT aH l):gT aH (if c then l.take 1 else []):=by
 by_cases hc:c
 ·rw[if_pos hc]
  intro h1 q hq;cases l with
  |nil=>cases hq
  |cons y r=>exact h h1 q hq
 rw[if_neg hc];exact il aH
theorem L5{b:Url}{p:lH}{u:Url}(hp:tJ p)(hb:b.aH=aW->Good b)(h:lP b p=some u):Good u:=by
 have hd:=rL hp aW;unfold lP at h;dsimp only at h;have hw0:yK (dj aW p):=⟨rfl,rfl,rfl,rfl⟩
 split at h
 ·exact Hf (u0:={dj aW p with host:={H0 with kind:=1}}) ⟨hd.q,hd.qe,hd.f,hd.fe⟩ rfl rfl rfl ⟨rfl,rfl,rfl,rfl⟩ rfl h
 by_cases hf:b.aH=aW
 ·have gb:=hb hf
  obtain⟨⟨ok3,ok5⟩,hne⟩:=DJ gb hf;have gpc:=gb.pc;have gfi:=gb.fi;rw[hf]at gpc gfi;simp only[hf,decide_true,if_true,true_and]at h
  split at h
  ·injection h with h
   subst h;exact gB ⟨hd.q,hd.qe,hd.f,hd.fe⟩ rfl rfl rfl ⟨ok3,⟨rfl,rfl,rfl,rfl⟩⟩ (jG fun x hx=>gpc x (Wl _ hx)) (fV (Rq _ gfi)) kQ
  split at h
  ·injection h with h
   subst h;unfold gv
   split
   ·next hq=>exact gB ⟨hd.q,hd.qe,hd.f,hd.fe⟩ rfl rfl rfl ⟨ok3,⟨rfl,rfl,rfl,rfl⟩⟩ gpc gfi hne
   exact gB ⟨gb.q,by have:=gb.qe;rw[hf]at this;exact this,hd.f,hd.fe⟩ rfl rfl rfl ⟨ok3,⟨rfl,rfl,rfl,rfl⟩⟩ gpc gfi hne
  split at h
  ·injection h with h
   subst h;exact gB ⟨hd.q,hd.qe,hd.f,hd.fe⟩ rfl rfl rfl ⟨ok3,⟨rfl,rfl,rfl,rfl⟩⟩ (jG fun x hx=>gpc x (k5 hx)) (fV (lQ gfi)) kQ
  injection h with h
  subst h;exact gB ⟨hd.q,hd.qe,hd.f,hd.fe⟩ rfl rfl rfl ⟨ok3,⟨rfl,rfl,rfl,rfl⟩⟩ (jG rU) (fV (il _)) kQ
 simp only[hf,decide_false,false_and,if_false,fd]at h
 split at h <;>
 ·injection h with h
  subst h;exact gB ⟨hd.q,hd.qe,hd.f,hd.fe⟩ rfl rfl rfl ⟨.inl rfl,⟨rfl,rfl,rfl,rfl⟩⟩ (jG rU) (fV (il _)) kQ

theorem M8:∀ k:Fin 256,(tW 0 (UInt8.ofNat k.val)).all (fun y=>!ip 0 (b2 y)&&(y==UInt8.ofNat k.val||y==37||(decide (48<=b2 y∧b2 y<=57)||decide (65<=b2 y∧b2 y<=70))))=true:=by decide +kernel
theorem pM{l:Bytes}{y:UInt8}(h:y∈dq 0 l):ip 0 (b2 y)=false∧(y∈l∨y=37∨(48<=b2 y∧b2 y<=57)∨(65<=b2 y∧b2 y<=70)):=by
 obtain⟨x,hx,hy⟩:=cT.mp h;have hf:=M8 ⟨x.toNat,x.toNat_lt⟩;simp only[cM]at hf;have:=bo.mp hf y hy;simp only[bD,fF,jI,beq_iff_eq,decide_eq_true_eq]at this;obtain⟨h1,h2⟩:=this;refine⟨h1,?_⟩;rcases h2 with(h2|h2)|h2|h2
 ·exact .inl (h2▸hx)
 ·exact .inr (.inl h2)
 ·exact .inr (.inr (.inl h2))
 exact .inr (.inr (.inr h2))
theorem a1e{l:Bytes}{c:UInt8}(hc:c≠37∧¬ (48<=b2 c∧b2 c<=57)∧¬ (65<=b2 c∧b2 c<=70))(h:c∉l):c∉dq 0 l:=fun hm=>by
 rcases(pM hm).2 with h1|h1|h1|h1
 ·exact h h1
 ·exact hc.1 h1
 ·exact hc.2.1 h1
 exact hc.2.2 h1
theorem SN{l:Bytes}(h:l.head? ≠ some 47):(dq 0 l).head? ≠ some 47:=by
 cases l with
 |nil=>exact h
 |cons c t =>
  rw[ix];unfold tW
  split
  ·simp
  simpa using h
def mb(fl:Bytes)(x:Bool):Bytes:=if x=true∧fl.getLast? = some 32 then fl.dropLast++[37,50,48]else fl
theorem SO{l:Bytes}(h:l.getLast? ≠ some 32):(dq 0 l).getLast? ≠ some 32:=by
 cases hl:l.getLast? with
 |none =>
  have:l=[]:=List.getLast?_eq_none_iff.mp hl;subst this;simp[dq]
 |some c =>
  obtain⟨r,rfl⟩:=a3l.mp hl;have e:dq 0 (r++[c])=dq 0 r++tW 0 c:=by unfold dq;simp
  rw[e];have key:∀ k:Fin 256,UInt8.ofNat k.val≠32->(tW 0 (UInt8.ofNat k.val)).getLast?.isSome=true∧(tW 0 (UInt8.ofNat k.val)).getLast? ≠ some 32:=by decide +kernel
  have hk:=key ⟨c.toNat,c.toNat_lt⟩;simp only[cM]at hk;have hk:=hk (fun e=>h (by rw[hl,e]));obtain⟨y,hy⟩:=tI.mp hk.1;rw[fq,hy];intro h2
  apply hk.2
  rw[hy]
  simpa using h2
theorem Pz(fl:Bytes)(a b:Bool):(if(a=true∨b=true)∧fl.getLast? = some 32 then fl.dropLast++[37,50,48]else fl)=mb fl (a||b):=by
 unfold mb;simp only[fF]
theorem Hq{p:lH}{u:Url}(hp:tJ p)(hs:vn p.aH)(hsp:eK p.aH=false)(h:fN p=some u):Good u:=by
 have hd:=rL hp p.aH;have hnf:p.aH≠aW:=fun e=>by rw[e,oH]at hsp;cases hsp
 unfold fN at h;dsimp only at h
 split at h
 ·exact ru hp hs hnf h
 ·injection h with h
  subst h;exact⟨hs,hd.q,hd.qe,hd.f,hd.fe,jG rU,fV (il _),fun _=>rfl,.none rfl hsp rfl ⟨rfl,rfl,rfl,rfl⟩ kQ⟩
 next n1 n2 =>
 rw[Pz]at h;injection h with h
 subst h
 have h47:p.rest.head? ≠ some 47:=by
  intro e;cases hr:p.rest with
  |nil=>rw[hr]at e;cases e
  |cons c t =>
   rw[hr]at e;injection e with e
   subst e;exact n2 t hr
 have hmem:∀ c:UInt8,c≠37∧¬ (48<=b2 c∧b2 c<=57)∧¬ (65<=b2 c∧b2 c<=70)->c∉p.rest->c∉mb (dq 0 p.rest) (p.bS||p.bZ):=by
  intro c hc hn hm;have h0:=a1e hc hn;unfold mb at hm
  split at hm
  ·rcases au.mp hm with hm|hm
   ·exact h0 (ot _ hm)
   simp only[aj,bl,or_false]at hm;rcases hm with rfl|rfl|rfl
   ·exact hc.1 rfl
   ·exact hc.2.1 (by decide)
   exact hc.2.1 (by decide)
  exact h0 hm
 have hall:∀ y∈mb (dq 0 p.rest) (p.bS||p.bZ),ip 0 (b2 y)=false:=by
  intro y hy;unfold mb at hy
  split at hy
  ·rcases au.mp hy with hy|hy
   ·exact(pM (ot _ hy)).1
   simp only[aj,bl,or_false]at hy;rcases hy with rfl|rfl|rfl <;>decide
  exact(pM hy).1
 have hhd:(mb (dq 0 p.rest) (p.bS||p.bZ)).head? ≠ some 47:=by
  have h0:=SN h47;unfold mb
  split
  ·intro e
   cases hd:(dq 0 p.rest).dropLast with
   |nil=>rw[hd]at e;simp at e
   |cons c t =>
    rw[hd]at e
    apply h0
    cases hq:dq 0 p.rest with
    |nil=>rw[hq]at hd;cases hd
    |cons c2 t2 =>
     rw[hq]at hd;cases t2 with
     |nil=>cases hd
     |cons d r =>
      injection hd with h1 h2
      rw[h1];exact e
  exact h0
 have hla:(mb (dq 0 p.rest) (p.bS||p.bZ)).getLast? ≠ some 32:=by
  unfold mb
  split
  ·rw[fq];simp
  next hn =>
  intro e;cases Uq:(p.bS||p.bZ)with
  |true=>exact hn ⟨Uq,e⟩
  |false =>
   rw[gN]at Uq;exact SO (hp.e Uq.1 Uq.2) e
 exact⟨hs,hd.q,hd.qe,hd.f,hd.fe,rU,il _,fun h=>(by cases h),.opq rfl hsp rfl rfl ⟨rfl,rfl,rfl,rfl⟩ (rX hall) hhd hla ⟨hmem 35 (by decide) hp.r.1,hmem 63 (by decide) hp.r.2⟩⟩
theorem Md{b:Url}{p:lH}{u:Url}(hb:Good b)(ho:b.opq=true)(h:lS b p=some u):Good u:=by
 unfold lS at h
 split at h
 ·cases h
 injection h with h
 subst h
 have hbd:Body {b with bZ:=true,f:=dq 1 p.f}:=by
  cases hb.body with
  |opq h1 h2 h3 h4 h5 h7 h8 h9 h10=>exact .opq h1 h2 h3 h4 ⟨h5.u,h5.p,h5.h,h5.n⟩ h7 h8 h9 h10
  |none h1=>rw[ho]at h1;cases h1
  |file h1=>rw[ho]at h1;cases h1
  |asked h1=>rw[ho]at h1;cases h1
 exact⟨hb.aH,hb.q,hb.qe,fun h=>(by cases h),vT enc1 p.f,hb.pc,hb.fi,hb.fl,hbd⟩
theorem pS{b v:Url}(hb:Good b)(ho:b.opq=false)(hnf:b.aH≠aW)(e0:v.aH=b.aH)(e1:v.usr=b.usr)(e2:v.fp=b.fp)(e3:v.host=b.host)(e4:v.bq=b.bq)(e5:v.port=b.port)(e6:v.opq=false)(hp:v.path ≠ []∨v.path=b.path):Body v:=by
 have hpp:b.path ≠ []->v.path ≠ []:=fun h=>hp.elim id (fun e=>e▸h);have a9a:fQ v=fQ b:=by unfold fQ;rw[e1,e2,e3,e4,e5]
 cases hb.body with
 |opq h1=>rw[ho]at h1;cases h1
 |none h1 h2 h3 h5 hq=>exact .none e6 (by rw[e0];exact h2) (by rw[e3];exact h3) ⟨by rw[e1];exact h5.u,by rw[e2];exact h5.p,by rw[e4];exact h5.h,by rw[e5];exact h5.n⟩ (hpp hq)
 |file h1 hs=>exact absurd hs hnf
 |asked h1 hs ha hq=>exact .asked e6 (by rw[e0];exact hs) (by rw[a9a,e0];exact ha) (fun h=>hpp (hq (by rw[<-e0];exact h)))
theorem S7{b:Url}{p:lH}{u:Url}(hb:Good b)(hp:tJ p)(ho:b.opq=false)(hnf:b.aH≠aW)(h:rZ b p=some u):Good u:=by
 have hd:=rL hp b.aH;unfold rZ at h;dsimp only at h
 split at h
 ·exact ru hp hb.aH hnf h
 split at h
 ·exact ru hp hb.aH hnf h
 split at h
 ·injection h with h
  subst h;exact⟨hb.aH,hd.q,hd.qe,hd.f,hd.fe,jG rU,fV (il _),fun _=>rfl,pS hb ho hnf rfl rfl rfl rfl rfl rfl rfl (.inl kQ)⟩
 split at h
 ·injection h with h
  subst h;unfold gv
  split
  ·exact⟨hb.aH,hd.q,hd.qe,hd.f,hd.fe,hb.pc,hb.fi,fun _=>rfl,pS hb ho hnf rfl rfl rfl rfl rfl rfl rfl (.inr rfl)⟩
  exact⟨hb.aH,hb.q,hb.qe,hd.f,hd.fe,hb.pc,hb.fi,fun _=>rfl,pS hb ho hnf rfl rfl rfl rfl rfl rfl rfl (.inr rfl)⟩
 injection h with h
 subst h;exact⟨hb.aH,hd.q,hd.qe,hd.f,hd.fe,jG (fun x hx=>hb.pc x (k5 hx)),fV (lQ hb.fi),fun _=>rfl,pS hb ho hnf rfl rfl rfl rfl rfl rfl rfl (.inl kQ)⟩
theorem zl{b:Url}{p:lH}{u:Url}(hb:Good b∨(b=U0∧p.iO=true))(hp:tJ p)(h:eU b p=some u):Good u:=by
 have hU:¬ Good b->p.iO=true:=fun hn=>hb.elim (fun g=>absurd g hn) (fun e=>e.2);unfold eU at h
 split at h
 ·refine L5 hp (fun e=>?_) h
  rcases hb with g|⟨e1,_⟩
  ·exact g
  rw[e1]at e;cases e
 next h1 =>
 split at h
 ·next h2=>exact ru hp (hp.s h2.1.1) (fun e=>h1 (.inl ⟨h2.1.1,e⟩)) h
 next h2 =>
 split at h
 ·next h3=>exact Hq hp (hp.s h3.1) (by simpa using h3.2) h
 next h3 =>
 have g:Good b:=by
  rcases hb with g|⟨e1,e2⟩
  ·exact g
  exfalso;by_cases hs:eK p.aH=true
  ·refine h2 ⟨⟨e2,hs⟩,.inl (fun e=>?_)⟩
   rw[e1]at e;rw[e]at hs;revert hs;decide
  exact h3 ⟨e2,hs⟩
 split at h
 ·next h4=>exact Md g h4 h
 next h4 =>
 have ho:b.opq=false:=by simpa using h4
 refine S7 g hp ho (fun e=>?_) h;cases hq:p.iO with
 |false=>exact h1 (.inr ⟨hq,ho,e⟩)
 |true =>
  by_cases hs:eK p.aH=true
  ·by_cases he:p.aH=b.aH
   ·exact h1 (.inl ⟨hq,he.trans e⟩)
   exact h2 ⟨⟨hq,hs⟩,.inl he⟩
  exact h3 ⟨hq,hs⟩
theorem nJ{b u:Url}{s:Bytes}(hb:Good b)(h:lX b s=some u):Good u:=zl (.inl hb) (SW s) h
theorem jT{u:Url}{s:Bytes}(h:gM s=some u):Good u:=by
 unfold gM at h
 split at h
 ·next hs=>exact zl (.inr ⟨rfl,hs⟩) (SW s) h
 cases h

def brI(i:Bool)(c:UInt8):Bool:=if c=91 then true else if c=93 then false else i
def nX:Bool->Bytes->Option Nat
 |_,[]=>none
 |i,c::t=>if c=58∧i=false then some 0 else(nX (brI i c) t).map (·+1)
theorem Yj:∀ (i:Bool) (s:Bytes),mC i s=(nX i s).map fun k=>(s.take k,s.drop (k+1))
 |_,[]=>rfl
 |i,c::t=>by
  rw[mC,nX]
  split
  ·rfl
  rw[show(if c=91 then true else if c=93 then false else i)=brI i c from rfl,Yj (brI i c) t,j6,j6];rfl
theorem Jt:∀ (i:Bool) (s:Bytes) (k:Nat),nX i s=some k->k<s.length
 |_,[],_,h=>by cases h
 |i,c::t,k,h=>by
  rw[nX]at h
  split at h
  ·injection h with h
   subst h;simp
  cases hc:nX (brI i c) t with
  |none=>rw[hc]at h;cases h
  |some m =>
   rw[hc]at h;injection h with h
   have h1:m+1=k:=h;have:=Jt _ t m hc;rw[ag];omega
theorem Yc{c:UInt8}:b2 c=58 ↔ c=58:=⟨fun h=>fB (h.trans (by decide)),fun h=>by rw[h];decide⟩
theorem Yd{c:UInt8}:b2 c=91 ↔ c=91:=⟨fun h=>fB (h.trans (by decide)),fun h=>by rw[h];decide⟩
theorem Ye{c:UInt8}:b2 c=93 ↔ c=93:=⟨fun h=>fB (h.trans (by decide)),fun h=>by rw[h];decide⟩
theorem Vz(i:Bool){l:Bytes}{k:Nat}(h:k<l.length):(nX i (l.drop k)).map (·+k)=if b2 l[k]=58∧i=false then some k else(nX (if b2 l[k]=91 then true else if b2 l[k]=93 then false else i) (l.drop (k+1))).map (·+(k+1)):=by
 have e1:brI i l[k]=if b2 l[k]=91 then true else if b2 l[k]=93 then false else i:=by
  unfold brI;by_cases h1:l[k]=91
  ·rw[if_pos h1,if_pos (Yd.mpr h1)]
  rw[if_neg h1,if_neg (fun h=>h1 (Yd.mp h))];by_cases h2:l[k]=93
  ·rw[if_pos h2,if_pos (Ye.mpr h2)]
  rw[if_neg h2,if_neg (fun h=>h2 (Ye.mp h))]
 rw[aq h,nX,<-e1];by_cases hc:l[k]=58∧i=false
 ·rw[if_pos hc,if_pos ⟨Yc.mpr hc.1,hc.2⟩]
  simp
 rw[if_neg hc,if_neg (fun h=>hc ⟨Yc.mp h.1,h.2⟩),j6]
 congr 1
 funext m
 simp only[Function.comp];omega
def a1l(o:Option Nat):Int:=match o with|some k=>k|none=>-1
theorem LG(l:Bytes)(w:World)(hl:l.length<=1024000000):bV prog 167 #[.string (bs l)] w (.int .i64 (a1l (nX false l))):=by
 obtain⟨R,hR⟩:=az (nX false l);rw[<-hR];have HR:=h_ hR;clear hR;obtain⟨s,hs⟩:=az (bs l);have hsz:s.size=l.length:=by rw[hs,aM]
 have hby:∀ k (hk:k<s.size) (hk2:k<l.length),((s[k]'hk).toNat:Int)=b2 l[k]:=fun k hk hk2=>cJ hs hk hk2;rw[<-hs];clear hs;obtain⟨N,hN⟩:=az (s.size);have lk:s.size=N:=hN.symm;have p7:N<=1024000000:=by omega
 have kd:=h_ hby;clear hby;have fL:=h_ hsz;clear hsz hl hN;go_enter func167,ntmps167
 go_wp2_with fail
 go_loopw [3,4] (fun bv iv wr=>∃ (k:Nat) (i:Bool),k<=N∧iv=.int .i64 k∧bv=.bool i∧Hid ((nX i (l.drop k)).map (·+k)=R)∧w=wr) (fun _ i _=>N-(intOf i).toNat)
 case atStart=>exact⟨0,false,by omega,by simp,rfl,(by rw[HR.out];show(nX false (List.drop 0 l)).map (·+0)=_;simp),rfl⟩
 case round =>
  obtain⟨k,i,hk,rfl,rfl,hd,rfl⟩:=hrel;by_cases hlt:k<N
  ·have nS:k<s.size:=by omega
   have hkl:k<l.length:=by have:=fL.out;omega
   have hx:=kd.out k nS hkl;have hst:=Vz i hkl;rw[hd.out]at hst;clear hd;generalize b2 l[k]=X at hx hst;have hX:X=58∨X=91∨X=93∨(X≠58∧X≠91∧X≠93):=by omega
   rcases hX with rfl|rfl|rfl|⟨h1,h2,h3⟩
   ·cases i with
    |false =>
     rw[if_pos ⟨rfl,rfl⟩]at hst;have HST:=h_ hst;clear hst
     go_wp2_with fail
     go_ret;exact⟨by rw[HST.out];rfl,rfl⟩
    |true =>
     rw[if_neg (by simp),if_neg (by decide),if_neg (by decide)]at hst;have HST:=h_ hst;clear hst
     go_wp2_with fail
     go_roundw
     case rel=>exact⟨k+1,true,by omega,by simp,rfl,HST.out.symm,by trivial⟩
     case measure=>simp[intOf];omega
   ·rw[if_neg (by simp),if_pos rfl]at hst
    have HST:=h_ hst;clear hst
    go_wp2_with fail
    go_roundw
    case rel=>exact⟨k+1,true,by omega,by simp,rfl,HST.out.symm,by trivial⟩
    case measure=>simp[intOf];omega
   ·rw[if_neg (by simp),if_neg (by decide),if_pos rfl]at hst
    have HST:=h_ hst;clear hst
    go_wp2_with fail
    go_roundw
    case rel=>exact⟨k+1,false,by omega,by simp,rfl,HST.out.symm,by trivial⟩
    case measure=>simp[intOf];omega
   rw[if_neg (fun h=>h1 h.1),if_neg h2,if_neg h3]at hst;have HST:=h_ hst;clear hst;have e1:(X==58)=false:=by simpa using h1
   have e2:(X==91)=false:=by simpa using h2
   have e3:(X==93)=false:=by simpa using h3
   go_wp2_with fail
   go_roundw
   case rel=>exact⟨k+1,i,by omega,by simp,rfl,HST.out.symm,by trivial⟩
   case measure=>simp[intOf];omega
  obtain rfl:k=N:=by omega
  have hdr:l.drop k=[]:=bB (by have:=fL.out;omega);have hd1:=hd.out;rw[hdr]at hd1;have HST:=h_ (show none=R from hd1);clear hd1 hd
  go_wp2_with fail
  go_ret;exact⟨by rw[<-HST.out];rfl,rfl⟩
theorem Vf{sp:Bool}{l:Bytes}:∀ {k:Nat},k<=l.length->(∀j (hj:j<l.length),j<k->ks sp l[j]=false)->(∀hk:k<l.length,ks sp l[k]=true)->dO sp l=(l.take k,l.drop k):=by
 intro k hk h1 h2;have e:l=l.take k++l.drop k:=(cX k l).symm
 have ht:∀ y∈l.take k,(fun c=>!ks sp c) y=true:=by
  intro y hy;obtain⟨j,hj,rfl⟩:=dz hy;rw[aE]at hj;rw[Oj];simp[h1 j (by omega) (by omega)]
 have hd:(l.drop k).takeWhile (fun c=>!ks sp c)=[]∧(l.drop k).dropWhile (fun c=>!ks sp c)=l.drop k:=by
  by_cases hlt:k<l.length
  ·rw[aq hlt]
   have:=h2 hlt;exact⟨aX (by simp[this]),bn (by simp[this])⟩
  rw[bB (by omega)];exact⟨rfl,rfl⟩
 unfold dO
 have e1:l.takeWhile (fun c=>!ks sp c)=l.take k++(l.drop k).takeWhile (fun c=>!ks sp c):=by
  conv=>lhs;rw[e]
  exact pz ht
 have e2:l.dropWhile (fun c=>!ks sp c)=(l.drop k).dropWhile (fun c=>!ks sp c):=by
  conv=>lhs;rw[e]
  exact pr ht
 rw[e1,e2,hd.1,hd.2,aG]
theorem slP_b{sp:Bool}{c:UInt8}:ks sp c=(decide (b2 c=47)||(sp&&decide (b2 c=92))):=by
 unfold ks
 have h1:(c==47)=decide (b2 c=47):=by
  rw[cK,beq_iff_eq,decide_eq_true_eq];exact⟨fun h=>by rw[h];decide,fun h=>fB (h.trans (by decide))⟩
 have h2:(c==92)=decide (b2 c=92):=by
  rw[cK,beq_iff_eq,decide_eq_true_eq];exact⟨fun h=>by rw[h];decide,fun h=>fB (h.trans (by decide))⟩
 rw[h1,h2]
theorem CA(l:Bytes)(sp:Bool)(w:World)(hl:l.length<=1024000000):bN prog 133 #[.string (bs l),.bool sp] w (.tuple #[S (dO sp l).1,S (dO sp l).2]):=by
 obtain⟨R,hR⟩:=az (dO sp l);have hat:∀ k,k<=l.length->(∀j (hj:j<l.length),j<k->ks sp l[j]=false)->(∀hk:k<l.length,ks sp l[k]=true)->R=(l.take k,l.drop k):=fun k h1 h2 h3=>hR.trans (Vf h1 h2 h3);rw[<-hR];clear hR;have HAT:=h_ hat;clear hat;obtain⟨s,hs⟩:=az (bs l);have hsz:s.size=l.length:=by rw[hs,aM]
 have hby:∀ k (hk:k<s.size) (hk2:k<l.length),((s[k]'hk).toNat:Int)=b2 l[k]:=fun k hk hk2=>cJ hs hk hk2;have hx1:∀ k,s.extract 0 k=bs (l.take k):=fun k=>by rw[hs,bX,cU,qj]
 have hx2:∀ k,s.extract k s.size=bs (l.drop k):=fun k=>by rw[hs,bX,aM,aP (by rw[ah];omega)]
 rw[<-hs];have hss:bs l=s:=hs.symm;have OQ:=h_ hss;clear hs hss;obtain⟨N,hN⟩:=az (s.size);have lk:s.size=N:=hN.symm;rw[lk]at hx2;have p7:N<=1024000000:=by omega
 have kd:=h_ hby;clear hby;have fL:=h_ hsz;clear hsz hl hN;have UY:=h_ hx1;clear hx1;have U7:=h_ hx2;clear hx2;go_enter func133,ntmps133
 go_wp2_with fail
 go_loopw [6] (fun iv wr=>∃ k:Nat,k<=N∧iv=.int .i64 k∧Hid (∀j (hj:j<l.length),j<k->ks sp l[j]=false)∧w=wr) (fun i _=>N-(intOf i).toNat)
 case atStart=>exact⟨0,by omega,by simp,(fun j hj h=>absurd h (cg j)),rfl⟩
 case round =>
  obtain⟨k,hk,rfl,hall,rfl⟩:=hrel;by_cases hlt:k<N
  ·have nS:k<s.size:=by omega
   have hkl:k<l.length:=by have:=fL.out;omega
   have hx:=kd.out k nS hkl
   have hnext:ks sp l[k]=false->∀ j (hj:j<l.length),j<k+1->ks sp l[j]=false:=fun h j hj h1=>by
    rcases cZ j k with h2|h2
    ·exact hall.out j hj h2
    obtain rfl:j=k:=by omega
    exact h
   have hhit:ks sp l[k]=true->R=(l.take k,l.drop k):=fun h=>HAT.out k (by omega) hall.out (fun _=>h);rw[slP_b]at hnext hhit;have HN:=h_ hnext;clear hnext;have HH:=h_ hhit;clear hhit hall;have e1:=UY.out k;have e2:=U7.out k;obtain⟨X,hX⟩:=az (b2 l[k]);rw[<-hX]at hx HN HH;clear hX;have hki:(k:Int)<=N:=by omega
   by_cases h47:X=47
   ·subst h47
    have HR:=h_ (HH.out (by simp));clear HH HN
    go_wp2_with fail
    go_quiet (fail)
    go_wp2_with fail
    go_ret2
    exact⟨by rw[HR.out];rfl,rA (bz _)⟩
   have q47:(X==47)=false:=by simpa using h47
   cases sp with
   |false =>
    have HS:=h_ (HN.out (by simp[h47]));clear HH HN
    go_wp2_with fail
    go_roundw
    case rel=>exact⟨k+1,by omega,by simp,HS.out,by trivial⟩
    case measure=>simp[intOf];omega
   |true =>
    by_cases QL:X=92
    ·subst QL
     have HR:=h_ (HH.out (by simp));clear HH HN
     go_wp2_with fail
     go_quiet (fail)
     go_wp2_with fail
     go_ret2
     exact⟨by rw[HR.out];rfl,rA (bz _)⟩
    have q92:(X==92)=false:=by simpa using QL
    have HS:=h_ (HN.out (by simp[h47,QL]));clear HH HN
    go_wp2_with fail
    go_roundw
    case rel=>exact⟨k+1,by omega,by simp,HS.out,by trivial⟩
    case measure=>simp[intOf];omega
  obtain rfl:k=N:=by omega
  have hR:=HAT.out l.length (af _) (fun j hj h=>hall.out j hj (by have:=fL.out;omega)) (fun h=>absurd h (Nat.lt_irrefl _));rw[dx,dJ]at hR;have HR:=h_ hR;clear hR hall;have he:(⟨#[]⟩:ByteArray)=bs []:=rfl
  go_wp2_with fail
  go_ret2
  exact⟨by rw[HR.out,<-OQ.out];rfl,bz _⟩

theorem IH:∀ (l:Bytes) (n:Int),(∃y∈l,fI (b2 y) 10<0)->iJ n l=none
 | [],_,h=>by obtain⟨_,h,_⟩:=h;cases h
 |c::t,n,h=>by
  rw[iJ];by_cases hc:fI (b2 c) 10<0
  ·rw[if_pos hc]
  rw[if_neg hc];refine IH t _ ?_;obtain⟨y,hy,hd⟩:=h;rcases aj.mp hy with rfl|hy
  ·exact absurd hd hc
  exact⟨y,hy,hd⟩
theorem YU:∀ (l:Bytes) (n:Int),(∀y∈l,¬fI (b2 y) 10<0)->∃ v,iJ n l=some v
 | [],n,_=>⟨n,rfl⟩
 |c::t,n,h=>by
  rw[iJ,if_neg (h c (by simp))];exact YU t _ (fun y hy=>h y (by simp[hy]))
abbrev apE(o:Option (Int×Bool)):Ending:=.returned (.tuple #[.int .i64 ((o.map (·.1)).getD 0),.bool ((o.map (·.2)).getD false),.bool o.isSome])
theorem Lm(aH l:Bytes)(w:World)(hl:l.length<=1024000000):Calls prog 168 #[.string (bs aH),.string (bs l)] w fun e w'=>e=apE (Om aH l)∧w'=w:=by
 have hrp:=fun W=>Nq aH W;have md:=fun W=>k7 l W hl;obtain⟨R,hR⟩:=az (Om aH l);rw[<-hR];unfold Om at hR;generalize Bp aH=O at hrp hR;generalize bs aH=ss at *;have IU:=h_ hrp;clear hrp;have hbad:∀ k (hk:k<l.length),fI (b2 l[k]) 10<0->iJ 0 l=none:=fun k hk h=>IH l 0 ⟨_,bw hk,h⟩
 have hgood:(∀k (hk:k<l.length),¬fI (b2 l[k]) 10<0)->∃ v,iJ 0 l=some v:=fun h=>YU l 0 (fun y hy=>by
  obtain⟨k,hk,rfl⟩:=dz hy;exact h k hk)
 obtain⟨s,hs⟩:=az (bs l);have hsz:s.size=l.length:=by rw[hs,aM]
 have hby:∀ k (hk:k<s.size) (hk2:k<l.length),((s[k]'hk).toNat:Int)=b2 l[k]:=fun k hk hk2=>cJ hs hk hk2;have hemp:(s.toList=[]) ↔ l=[]:=by rw[hs,ay]
 rw[<-hs]at md ⊢;clear hs;obtain⟨N,hN⟩:=az (s.size);have lk:s.size=N:=hN.symm;have p7:N<=1024000000:=by omega
 have kd:=h_ hby;clear hby;have fL:=h_ hsz;clear hsz hl hN;by_cases hnil:l=[]
 ·rw[if_pos hnil]at hR
  have he:=hemp.mpr hnil;have he1:s.toList.isEmpty=true:=by simpa using he
  have HR:=h_ hR;clear hemp hR hbad hgood md;go_enter func168,ntmps168
  go_wp2_with fail
  go_ret3
  exact⟨by rw[HR.out];rfl,rfl⟩
 rw[if_neg hnil]at hR;have he:¬ s.toList=[]:=fun h=>hnil (hemp.mp h);have he1:s.toList.isEmpty=false:=by simpa using he
 have hwf:dk l=iJ 0 l:=by unfold dk;rw[if_neg hnil]
 rw[hwf]at hR md;clear hemp hwf hnil;have HBAD:=h_ hbad;clear hbad;have a2S:=h_ hgood;clear hgood;have qA:=h_ md;clear md;have HR:=h_ hR;clear hR;go_enter func168,ntmps168
 go_wp2_with fail
 go_loopw [7] (fun iv wr=>∃ k:Nat,k<=N∧iv=.int .i64 k∧Hid (∀j (hj:j<l.length),j<k->0<=fI (b2 l[j]) 10)∧w=wr) (fun i _=>N-(intOf i).toNat)
 case atStart=>exact⟨0,by omega,by simp,(fun j hj h=>absurd h (cg j)),rfl⟩
 case round =>
  obtain⟨k,hk,rfl,hall,rfl⟩:=hrel;by_cases hlt:k<N
  ·have nS:k<s.size:=by omega
   have hkl:k<l.length:=by have:=fL.out;omega
   have hx:=kd.out k nS hkl;have hr:=jr l[k];have hda:=fun W=>dB (b2 l[k]) 10 W hr (by omega);have hbad:=HBAD.out k hkl
   have hnext:0<=fI (b2 l[k]) 10->∀ j (hj:j<l.length),j<k+1->0<=fI (b2 l[j]) 10:=fun h j hj h1=>by
    rcases cZ j k with h2|h2
    ·exact hall.out j hj h2
    obtain rfl:j=k:=by omega
    exact h
   have HN:=h_ hnext;clear hnext;obtain⟨D,hD⟩:=az (fI (b2 l[k]) 10);rw[<-hD]at hda hbad HN;clear hD;generalize b2 l[k]=X at hx hr hda;have vl:=h_ hda;clear hda hall;by_cases hD0:D<0
   ·have hb:=hbad hD0
    have hR:=HR.out;rw[hb]at hR;have HR2:=h_ (show R=none from hR);clear hR hb hbad HN
    go_wp2_with (first|(go_at_call 62;refine(vl.out _).mono ?_;rintro e w2 ⟨rfl,rfl⟩)|fail)
    go_ret3
    exact⟨by rw[HR2.out];rfl,rfl⟩
   have HS:=h_ (HN.out (by omega));clear hbad HN
   go_wp2_with (first|(go_at_call 62;refine(vl.out _).mono ?_;rintro e w2 ⟨rfl,rfl⟩)|fail)
   go_roundw
   case rel=>exact⟨k+1,by omega,by simp,HS.out,by trivial⟩
   case measure=>simp[intOf];omega
  obtain rfl:k=N:=by omega
  obtain⟨v,hv⟩:=a2S.out (fun j hj=>by have:=hall.out j hj (by have:=fL.out;omega);omega);have hR:=HR.out;have md:=qA.out;rw[hv]at hR md;replace md:∀ W,bV prog 111 #[.string s] W (.tuple #[.int .i64 v,.bool true]):=md;have HW:=h_ md;clear md hall hv qA;dsimp only at hR;by_cases hbig:65535<v
  ·rw[if_pos hbig]at hR
   have HR2:=h_ hR;clear hR
   go_wp2_with (first|(go_at_call 111;refine(HW.out _).mono ?_;rintro e w2 ⟨rfl,hw2⟩;subst hw2)|fail)
   go_ret3
   exact⟨by rw[HR2.out];rfl,rfl⟩
  rw[if_neg hbig]at hR;cases O with
  |none =>
   rw[if_neg (by simp)]at hR;have HR2:=h_ hR;clear hR;have UT:=h_ (show ∀W,bV prog 191 #[.string ss] W (.tuple #[.int .i64 0,.bool false])from IU.out)
   go_wp2_with (first
    |(go_at_call 111;refine(HW.out _).mono ?_;rintro e w2 ⟨rfl,hw2⟩;subst hw2)
    |(go_at_call 191;refine(UT.out _).mono ?_;rintro e w2 ⟨rfl,hw2⟩;subst hw2)
    |fail)
   go_ret3
   exact⟨by rw[HR2.out];rfl,rfl⟩
  |some o =>
   have UT:=h_ (show ∀W,bV prog 191 #[.string ss] W (.tuple #[.int .i64 o,.bool true])from IU.out);by_cases ho:o=v
   ·rw[if_pos (by rw[ho])]at hR
    have HR2:=h_ hR;clear hR;have hov:(o==v)=true:=by simpa using ho
    go_wp2_with (first
     |(go_at_call 111;refine(HW.out _).mono ?_;rintro e w2 ⟨rfl,hw2⟩;subst hw2)
     |(go_at_call 191;refine(UT.out _).mono ?_;rintro e w2 ⟨rfl,hw2⟩;subst hw2)
     |fail)
    go_ret3
    exact⟨by rw[HR2.out];rfl,rfl⟩
   rw[if_neg (fun h=>ho (bp h))]at hR;have HR2:=h_ hR;clear hR;have hov:(o==v)=false:=by simpa using ho
   go_wp2_with (first
    |(go_at_call 111;refine(HW.out _).mono ?_;rintro e w2 ⟨rfl,hw2⟩;subst hw2)
    |(go_at_call 191;refine(UT.out _).mono ?_;rintro e w2 ⟨rfl,hw2⟩;subst hw2)
    |fail)
   go_ret3
   exact⟨by rw[HR2.out];rfl,rfl⟩

theorem Ed(c:UInt8)(s:Bytes):Lib.cut s [c]=bY c s:=by
 by_cases h:c∈s
 ·obtain⟨p,r,e,hp,hc⟩:=oT h
  rw[hc,e,ng p r hp]
 rw[rT h,pD h]
theorem PY:∀ s:Bytes,mE s=((bY 58 s).1,(bY 58 s).2.1)
 | []=>rfl
 |x::t=>by
  rw[mE,bY,PY t]
  split <;>rfl
theorem Jh(s:Bytes):(Lib.lastIndexByte (bs s) 64=-1∧Au s=none)∨∃ i:Nat,i<s.length∧Lib.lastIndexByte (bs s) 64=i∧Au s=some (s.take i,s.drop (i+1)):=by
 have e64:∀ j (hj:j<s.length),((((bs s).data[j]!).toNat:Int)=64) ↔ s[j]=64:=by
  intro j hj
  have e:(bs s).data[j]! = s[j]:=by
   show s.toArray[j]! = _;simp[hj]
  rw[e];exact⟨fun h=>fB (by show b2 s[j]=b2 64;exact h.trans (by decide)),fun h=>by rw[h];decide⟩
 rcases Lib.lastIndexByte_spec (bs s) 64 with⟨h1,h2⟩|⟨i,h1,h2,h3,h4⟩
 ·refine .inl ⟨h1,uU fun hm=>?_⟩
  obtain⟨j,hj,he⟩:=dz hm;exact h2 j (by rw[aM];exact hj) ((e64 j hj).mpr he)
 rw[aM]at h1;refine .inr ⟨i,h1,h2,?_⟩
 have hs:s=s.take i++64::s.drop (i+1):=by
  conv=>lhs;rw[<-List.take_append_drop i s,aq h1,(e64 i h1).mp h3]
 have hn:(64:UInt8)∉s.drop (i+1):=fun hm=>by
  obtain⟨j,hj,he⟩:=dz hm;rw[ah]at hj;rw[sA]at he;exact h4 (i+1+j) (by omega) (by rw[aM];omega) ((e64 (i+1+j) (by omega)).mpr he)
 conv=>lhs;rw[hs]
 exact CI _ hn
def ld(a:mq):List Value:=[S a.user,S a.pass]++aZ a.host++[.bool a.bq,.int .i64 a.port]
abbrev bW(a:mq):Array Value:=(ld a).toArray
abbrev a3y(o:Option mq):Ending:=.returned (.tuple #[.agg (bW (o.getD A0)),.bool o.isSome])
theorem allA(w:World):(Instr.alloc 151 true (Value.tuple #[])).run prog w=.ok (.pointer (some ⟨w.heap.size,0,none⟩)) (w.alloc (.cells (bW A0) 151)):=by kernel_rfl
theorem rv:(prog.info? 151).map (·.size)=some 15:=by kernel_rfl
theorem bU:(prog.info? 9).map (·.size)=some 1∧(prog.info? 3).map (·.size)=some 1∧(prog.info? 4).map (·.size)=some 1:=by refine⟨?_,?_,?_⟩ <;>kernel_rfl
theorem rx{a:mq}(h:a.host.six.length=8):(ld a).length=15:=by simp[ld,aZ,h]
theorem gd{a:mq}(h:a.host.six.length=8):(bW a).size=15:=by rw[eJ,rx h]
theorem kM{h:ie}:∀ v∈aZ h,v.oneCell'=true:=by
 intro v hv;simp only[aZ,aj,cm]at hv;rcases hv with e|e|e|⟨_,_,e⟩ <;>first|(rw[e];rfl)|(rw[<-e];rfl)
theorem Jj{a:mq}:∀ v∈ld a,v.oneCell'=true:=by
 intro v hv;simp only[ld,au,aj,bl,or_false]at hv;rcases hv with((e|e)|e)|e|e
 ·rw[e];rfl
 ·rw[e];rfl
 ·exact kM v e
 ·rw[e];rfl
 rw[e];rfl
theorem Pm(a:mq)(x:Bytes):(bW a).setIfInBounds 0 (S x)=bW {a with user:=x}:=rfl
theorem Pk(a:mq)(x:Bytes):(bW a).setIfInBounds 1 (S x)=bW {a with pass:=x}:=rfl
theorem rY:∀ (new pre old post:List Value),old.length=new.length->uz (pre++old++post).toArray pre.length new=(pre++new++post).toArray
 | [],pre,old,post,h=>by
  obtain rfl:old=[]:=ak h;rfl
 |v::r,pre,old,post,h=>by
  cases old with
  |nil=>cases h
  |cons x t =>
   rw[uz];have e:(pre++x::t++post).toArray.setIfInBounds pre.length v=((pre++[v])++t++post).toArray:=by simp
   rw[e];have:=rY r (pre++[v]) t post (by simpa using h);rw[ae]at this;simp only[ag,aN,bC]at this;rw[this];simp
theorem nI(old new:List Value)(h:old.length=new.length):uz old.toArray 0 new=new.toArray:=by
 have:=rY new [] old [] h
 simpa using this
theorem Pj(a:mq)(h:ie)(h8:h.six.length=8)(g8:a.host.six.length=8):uz (bW a) 2 (aZ h)=bW {a with host:=h} :=
 rY (aZ h) [S a.user,S a.pass] (aZ a.host) [.bool a.bq,.int .i64 a.port] (by simp[aZ,h8,g8])
theorem CJ(a:mq)(n:Int)(a8:a.host.six.length=8):(bW a).setIfInBounds 14 (.int .i64 n)=bW {a with port:=n}:=by
 obtain⟨u,p,⟨k,nm,f,six⟩,hp,po⟩:=a;simp only at a8;obtain⟨b1,b2,b3,b4,b5,b6,b7,b8,rfl⟩:=eight a8;rfl
theorem Ji(a:mq)(b:Bool)(a8:a.host.six.length=8):(bW a).setIfInBounds 13 (.bool b)=bW {a with bq:=b}:=by
 obtain⟨u,p,⟨k,nm,f,six⟩,hp,po⟩:=a;simp only at a8;obtain⟨b1,b2,b3,b4,b5,b6,b7,b8,rfl⟩:=eight a8;rfl
end Go.Proofs.YtmndlfglgcioeaaGreatDoor
