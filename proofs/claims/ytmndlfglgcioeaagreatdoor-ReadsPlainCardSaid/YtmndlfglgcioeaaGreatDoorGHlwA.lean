/- HlwA HlwB HlwC PrsA RfrA SrcA PrsB PrsC PrsD PrsE PrsF PrsH WlkA WlkB AthE AthF AthG: joined. -/
import Derived.Laws.StructEq
import Derived.ChangeKeysEq
import Derived.Test.YtmndlfglgcioeaaGreatDoorGSixF
import Derived.Test.YtmndlfglgcioeaaGreatDoorGTextA
import Derived.Test.YtmndlfglgcioeaaGreatDoorGEntA
import Derived.WalkLawsBesides
import Derived.Test.YtmndlfglgcioeaaGreatDoorGOwnB
set_option maxHeartbeats 40000000
namespace Go.Proofs.YtmndlfglgcioeaaGreatDoor
open Tryz
open Go.RowKit
set_option maxRecDepth 10000
section
variable {P:Program} {ops:Array Oper} {rest:List Oper} {o:Oper} {a:Act} {w:World} {Q:Exit->Act->World->Prop}
theorem wT (hg:Region.wanted o (yielded ops a.tmps)=true) (v:Value) (hr:(execOp a.eval o).run P w=.ok (.value v) w) (h:wpList P ops Q rest (a.put o.dst v) w):wpList P ops Q (o::rest) a w:=by
 unfold wpList
 rw[if_pos hg]
 refine .inl ?_
 unfold Oper.wp
 rw[hr]
 exact h
end
structure HB (W:World) (b:Nat) (h:gE):Prop where
 a:W.heap[b]? = some (.cells (bp h) 27 (0,0))
 l:h.six.length=8
theorem HB.lt {W:World} {b:Nat} {h:gE} (i:HB W b h):b<W.heap.size:=(bg.1 i.a).1
theorem HB.keep {W W':World} {b:Nat} {h:gE} (i:HB W b h) (hb:Below W.heap.size W W'):HB W' b h:=⟨(hb.block b i.lt).trans i.a,i.l⟩
theorem HB.new (W:World) (h:gE) (l:h.six.length=8):HB (W.alloc (.cells (bp h) 27)) W.heap.size h:=⟨heap_alloc_new W _,l⟩
theorem HB.cell {W:World} {b:Nat} {h:gE} (i:HB W b h) (j:Nat):W.cell? ⟨b,j,none⟩=(bp h)[j]?:=by
 simp[World.cell?,i.a]
theorem HB.load {W:World} {b:Nat} {h:gE} (i:HB W b h):(loadVar 27 ⟨b,0,none⟩).run prog W=.ok (.agg (bp h)) W:=m3 W b h i.a i.l
section
variable {ops:Array Oper} {rest:List Oper} {o:Oper} {a:Act} {w:World} {Q:Exit->Act->World->Prop}
theorem yp {W:World} (hg:o.guard=none) (x y:Operand) (ho:o.op=.store 27 x y) (h:gE) (hl:h.six.length=8)
  (hW:W=w.alloc (.cells (bp H0) 27)) (hx:a.eval x=.pointer (some ⟨w.heap.size,0,none⟩)) (hy:a.eval y=.agg (bp h))
  (k:∀ w',HB w' w.heap.size h->Below w.heap.size w w'->wpList prog ops Q rest (a.put o.dst undef) w'):wpList prog ops Q (o::rest) a W:=by
 subst hW
 have hz:(bp h).size=11:=by simp[aW,hl]
 exact gd hg 27 x y ho (bp h) (bp H0) 27 hx hy (hsize h hl) (by rw[hz];rfl) (S1 h) (k _ (HB.new w h hl) ((Below.refl _ _).alloc (ae _) _))
theorem MD (hg:Region.wanted o (yielded ops a.tmps)=true) (x:Operand) (ho:o.op=.load 27 x) (b:Nat) (h:gE) (i:HB w b h) (hx:a.eval x=.pointer (some ⟨b,0,none⟩))
  (k:wpList prog ops Q rest (a.put o.dst (.agg (bp h))) w):wpList prog ops Q (o::rest) a w:=by
 refine wT hg (.agg (bp h)) ?_ k
 have e:=i.load
 unfold execOp
 simp only[ho,hx,Instr.loadAt,Instr.sureAddr,Sem.run_bind,Sem.run_pure,Result.andThen_ok,e]
end
theorem fJ {a b c:World} (h1:Below a.heap.size a b) (h2:Below b.heap.size b c):Below a.heap.size a c:=h1.trans (h2.mono h1.size)

def g1:gE:={H0 with kind:=3,four:=2130706433}
def g2:gE:={H0 with kind:=5,name:=[48,120,55,70,46,49]}
def g3:gE:={H0 with kind:=2,name:=[97,97,46,98]}
def g4:gE:={H0 with kind:=4,six:=[0,0,0,0,0,0,0,1]}
def g6:gE:={H0 with kind:=1}
theorem q1:el (ls ⟨#[48,120,55,70,46,49]⟩) true=some g1:=by kernel_rfl
theorem q2:el (ls ⟨#[48,120,55,70,46,49]⟩) false=some g2:=by kernel_rfl
theorem q3:el (ls ⟨#[65,37,52,49,239,188,142,98]⟩) true=some g3:=by kernel_rfl
theorem q4:el (ls ⟨#[91,58,58,49,93]⟩) false=some g4:=by kernel_rfl
theorem q5:el (ls ⟨#[91,58,58,49]⟩) true=none:=by kernel_rfl
theorem q6:el (ls ⟨#[]⟩) false=some g6:=by kernel_rfl
theorem q7:el (ls ⟨#[]⟩) true=none:=by kernel_rfl

theorem HB.six {W:World} {b:Nat} {h:gE} (i:HB W b h):W.rangeAt b 3 (cH h.six):=fun j v hj=>by
 rw[i.cell]
 show(aW h).toArray[3+j]? = some v
 rw[bY]
 unfold aW
 rw[show 3+j=j+1+1+1 by omega]
 simp only[bZ]
 exact hj
section
variable {ops:Array Oper} {rest:List Oper} {o:Oper} {a:Act} {w:World} {Q:Exit->Act->World->Prop}
end

def gC (s:Bytes):Bytes:=s.filter fun c=>!(c==9||c==10||c==13)
def trimF (s:Bytes):Bytes:=((s.dropWhile fun c=>decide (b2 c<=32)).reverse.dropWhile fun c=>decide (b2 c<=32)).reverse
def ef (s:Bytes):Bytes:=gC (trimF s)
structure jP where
 fQ:Bool
 aC:Bytes
 rest:Bytes
 bP:Bool
 q:Bytes
 bS:Bool
 f:Bytes
def bR (c:UInt8):Bytes->Bytes×Bytes×Bool
 | []=>([],[],false)
 |x::t=>if x=c then([],t,true)else(x::(bR c t).1,(bR c t).2.1,(bR c t).2.2)
def iq (c:Int):Bool:=decide ((65<=c∧c<=90)∨(97<=c∧c<=122))
def nw (c:Int):Bool:=iq c||decide (48<=c∧c<=57)||decide (c=43∨c=45∨c=46)
def tX:Bytes->Bool
 | []=>false
 |c::t=>iq (b2 c)&&t.all fun y=>nw (b2 y)
def eJ (s:Bytes):jP :=
 let a:=bR 35 s
 let b:=bR 63 a.1
 let c:=bR 58 b.1
 if c.2.2=true∧tX c.1=true then⟨true,c.1.map dc,c.2.1,b.2.2,b.2.1,a.2.2,a.2.1⟩else⟨false,[],b.1,b.2.2,b.2.1,a.2.2,a.2.1⟩
def dp:Bytes->Bool
 | [a,b]=>iq (b2 a)&&(b==58||b==124)
 |_=>false
def iF:Bytes->Bool
 | [a,b]=>iq (b2 a)&&b==58
 |_=>false
def eK:Bytes->Bool
 | []=>false
 | [_]=>false
 | [a,b]=>dp [a,b]
 |a::b::c::_=>dp [a,b]&&(c==47||c==92||c==63||c==35)
def gi:Bytes->Option Bytes
 | []=>none
 |c::t=>if c=46 then some t else match c,t with
  |37,50::y::r=>if y=101∨y=69 then some r else none
  |_,_=>none
def jr (s:Bytes):Bool:=gi s==some []
def ip (s:Bytes):Bool:=match gi s with|some r=>jr r|none=>false
def bU (aC:Bytes) (p:List Bytes):List Bytes:=match p with
 | []=>[]
 | [x]=>if aC=[102,105,108,101]∧iF x=true then [x]else []
 |p=>p.dropLast
def kE (sp:Bool) (c:UInt8):Bool:=c==47||(sp&&c==92)
def fI (sp:Bool):Bytes->List Bytes
 | []=>[[]]
 |c::t=>if kE sp c=true then []::fI sp t else match fI sp t with | []=>[[c]]|p::ps=>(c::p)::ps
def jL (aC:Bytes) (out:List Bytes) (p:Bytes) (last:Bool):List Bytes :=
 if ip p=true then(if last then bU aC out++[[]]else bU aC out)
 else if jr p=true then(if last then out++[[]]else out)
 else if aC=[102,105,108,101]∧out=[]∧dp p=true then out++[p.take 1++[58]]
 else out++[df 4 p]
def ju (aC:Bytes):List Bytes->List Bytes->List Bytes
 |out,[]=>out
 |out,[p]=>jL aC out p true
 |out,p::q::r=>ju aC (jL aC out p false) (q::r)
def cL (aC:Bytes) (path:List Bytes) (s:Bytes):List Bytes:=ju aC path (fI (ep aC) s)
def aR:Bytes:=[102,105,108,101]
def U0:Url:=⟨[],[],[],H0,false,0,false,[],[],false,[],false,[]⟩
def cQ (aC:Bytes) (p:jP):Url:={U0 with aC:=aC,bP:=p.bP,q:=df (if ep aC=true then 3 else 2) p.q,bS:=p.bS,f:=df 1 p.f}
def r4 (sp:Bool) (s:Bytes):Nat:=(s.takeWhile (kE sp)).length
def fU (aC s:Bytes):List Bytes:=cL aC [] (if 0<r4 (ep aC) s then s.drop 1 else s)
def dA (sp:Bool) (s:Bytes):Bytes×Bytes:=(s.takeWhile fun c=>!kE sp c,s.dropWhile fun c=>!kE sp c)
def iI (u:Url) (s:Bytes):Option Url :=
 let c:=dA (ep u.aC) s
 match jk u.aC c.1 with
 |none=>none
 |some a=>some {u with usr:=a.user,ed:=a.pass,host:=a.host,aZ:=a.aZ,port:=a.port,path:=if ep u.aC=true∨c.2 ≠ []then fU u.aC c.2 else u.path}
def takeA (u b:Url):Url:={u with usr:=b.usr,ed:=b.ed,host:=b.host,aZ:=b.aZ,port:=b.port}
def eV (u b:Url):Url:=if u.bP=true then {u with path:=b.path}else {u with path:=b.path,bP:=b.bP,q:=b.q}
def gu (u:Url) (s:Bytes):Option Url :=
 let c:=dA true s
 if dp c.1=true then some {u with path:=cL u.aC [] s}
 else if c.1=[]then some {u with path:=fU u.aC c.2}
 else match el c.1 true with
  |none=>none
  |some h=>some {u with host:=if h.kind=2∧h.name=[108,111,99,97,108,104,111,115,116]then u.host else h,path:=fU u.aC c.2}
def kx (b:Url) (p:jP):Option Url :=
 let u:={cQ aR p with host:={H0 with kind:=1}}
 let from_:=decide (b.aC=aR)
 let n:=r4 (ep aR) p.rest
 if 2<=n then gu u (p.rest.drop 2)
 else
  let u:=if from_ then {u with host:=b.host}else u
  if n=1 then
   let rest:=p.rest.drop 1
   let path:=if from_=true∧(match b.path with|x::_=>iF x | []=>false)=true∧eK rest=false then b.path.take 1 else []
   some {u with path:=cL aR path rest}
  else if from_=true∧p.rest=[]then some (eV u b)
  else if from_=true∧eK p.rest=false then some {u with path:=cL aR (bU aR b.path) p.rest}
  else some {u with path:=cL aR [] p.rest}
def fj (p:jP):Option Url :=
 let u:=cQ p.aC p
 match p.rest with
 |47::47::r=>iI u r
 |47::r=>some {u with path:=cL u.aC [] r}
 |s =>
  let fl:=df 0 s
  some {u with opq:=true,flat:=if(p.bP=true∨p.bS=true)∧fl.getLast? = some 32 then fl.dropLast++[37,50,48]else fl}
def jV (b:Url) (p:jP):Option Url:=if p.bS=false∨p.bP=true∨p.rest ≠ []then none else some {b with bS:=true,f:=df 1 p.f}
def pF (b:Url) (p:jP):Option Url :=
 let u:=cQ b.aC p
 let n:=r4 (ep b.aC) p.rest
 if 2<=n∧ep b.aC=true then iI u (p.rest.drop n)
 else if 2<=n then iI u (p.rest.drop 2)
 else if n=1 then some {takeA u b with path:=cL b.aC [] (p.rest.drop 1)}
 else if p.rest=[]then some (eV (takeA u b) b)
 else some {takeA u b with path:=cL b.aC (bU b.aC b.path) p.rest}
def d9 (b:Url) (p:jP):Option Url :=
 if(p.fQ=true∧p.aC=aR)∨(p.fQ=false∧b.opq=false∧b.aC=aR)then kx b p
 else if(p.fQ=true∧ep p.aC=true)∧(p.aC≠b.aC∨p.rest.take 2=[47,47])then iI (cQ p.aC p) (p.rest.drop (r4 (ep p.aC) p.rest))
 else if p.fQ=true∧¬ ep p.aC=true then fj p
 else if b.opq=true then jV b p
 else pF b p
def mC (b:Url) (s:Bytes):Option Url:=d9 b (eJ (ef s))
def gv (s:Bytes):Option Url:=if(eJ (ef s)).fQ=true then d9 U0 (eJ (ef s))else none

def iE (x:UInt8):Bool:=sq (b2 x)
def bz (s:Bytes):Bytes:=s.dropWhile iE
def kM (x:UInt8):Bool:=decide (48<=b2 x∧b2 x<=57)
def pd (x:UInt8):Bool:=decide (x=46)||kM x
def NU:Bytes:=[117,114,108]
def jy (s:Bytes):Bytes :=
 if(s.take 3).map dc=NU then(match bz (s.drop 3)with
  | []=>s
  |c::t=>if c=61 then bz t else s)
 else s
def uv:Bytes->Bytes
 | []=>[]
 |x::r=>if x=34∨x=39 then r.takeWhile (· != x)else x::r
structure FV where
 delay:Bytes
 has:Bool
 url:Bytes
def z48 (x:UInt8):Bool:=decide (x=48)
def kX (d:Bytes):Bytes:=if d.dropWhile z48=[]then [48]else d.dropWhile z48
def t4:Bytes->Bytes
 | []=>[]
 |c::r=>if c=59∨c=44 then bz r else c::r
def Wj (d t:Bytes):Option FV:=match t with
 | []=>some ⟨d,false,[]⟩
 |c::_=>if iE c=false∧c≠59∧c≠44 then none
  else if t4 (bz t)=[]then some ⟨d,false,[]⟩else some ⟨d,true,uv (jy (t4 (bz t)))⟩
def Wi (s:Bytes):Option FV:=if s.takeWhile kM=[]∧s.head? ≠ some 46 then none else Wj (kX (s.takeWhile kM)) ((s.dropWhile kM).dropWhile pd)
def uU (s:Bytes):Option FV:=Wi (bz s)
structure xd (d:Bytes):Prop where
 n:d ≠ []
 a:∀ x∈d,kM x=true
 z:kX d=d
theorem Z7:∀ k:Fin 256,kM (UInt8.ofNat k.val)=true->iE (UInt8.ofNat k.val)=false∧UInt8.ofNat k.val≠59∧UInt8.ofNat k.val≠44∧UInt8.ofNat k.val≠38:=by decide +kernel
theorem Mj {x:UInt8} (h:kM x=true):iE x=false∧x≠59∧x≠44∧x≠38:=l9 (P:=fun x=>kM x=true->iE x=false∧x≠59∧x≠44∧x≠38) Z7 x h
theorem im {p:UInt8->Bool} {x:UInt8} {r:Bytes} (h:p x=false):(x::r).dropWhile p=x::r:=bC (by rw[h];simp)
theorem sJ {p:UInt8->Bool}:∀ {d:Bytes} (t:Bytes),(∀x∈d,p x=true)->(d++t).dropWhile p=t.dropWhile p
 | [],_,_=>rfl
 |x::d,t,h=>by
  show((x::(d++t)).dropWhile p)=_
  rw[bh (h x (by simp)),sJ t fun y hy=>h y (by simp[hy])]
theorem oD {p:UInt8->Bool}:∀ {d:Bytes} (t:Bytes),(∀x∈d,p x=true)->(d++t).takeWhile p=d++t.takeWhile p
 | [],_,_=>rfl
 |x::d,t,h=>by
  show((x::(d++t)).takeWhile p)=_
  rw[bo (h x (by simp)),oD t fun y hy=>h y (by simp[hy])]
  rfl
theorem Nq {d:Bytes} (h:xd d):uU d=some ⟨d,false,[]⟩:=by
 have e0:d=d++[]:=(aV d).symm
 have h1:bz d=d:=by
  cases d with
  |nil=>exact absurd rfl h.n
  |cons x r=>exact im (Mj (h.a x (by simp))).1
 have h2:d.takeWhile kM=d:=by
  have:=oD (p:=kM) (d:=d) [] h.a
  simpa using this
 have h3:d.dropWhile kM=[]:=by
  have:=sJ (p:=kM) (d:=d) [] h.a
  simpa using this
 unfold uU Wi
 rw[h1,h2,h3,if_neg (fun hh=>h.n hh.1),h.z]
 rfl

def a0g:Nat:=4607182418800017408
def NK:Nat:=4621819117588971520
def kd:Nat->Nat
 |0=>a0g
 |k+1=>(Ieee.double.mul (kd k) NK).getD 0
theorem pow_mul:∀ k:Fin 22,Ieee.double.mul (kd k.val) NK=some (kd (k.val+1)):=by decide +kernel
theorem Nb {k:Nat} (h:k<22):Ieee.double.mul (kd k) NK=some (kd (k+1)):=pow_mul ⟨k,h⟩
def Gz (b:Nat):Bool:=match Ieee.double.read b with
 | .number _ m _=>m != 0
 |_=>false
theorem QK:∀ k:Fin 23,Gz (kd k.val)=true:=by decide +kernel
def okB (b:Nat):Bool:=match Ieee.double.read b with
 | .nan ..=>false
 |_=>true
theorem VX {a b:Nat} (ha:okB a=true) (hb:Gz b=true):∃ r,Ieee.double.mul a b=some r:=by
 unfold okB at ha
 unfold Gz at hb
 unfold Ieee.Format.mul
 generalize Ieee.double.read a=x at ha ⊢
 generalize Ieee.double.read b=y at hb ⊢
 cases y with
 |number t n j =>
  have hn:n≠0:=by simpa using hb
  cases x with
  |number s m i=>exact⟨_,rfl⟩
  |infinity s=>simp[Ieee.Datum.product,hn]
  |nan s f=>cases ha
 |infinity s=>cases hb
 |nan s f=>cases hb
theorem UO {a b:Nat} (ha:okB a=true) (hb:Gz b=true):∃ r,Ieee.double.div a b=some r:=by
 unfold okB at ha
 unfold Gz at hb
 unfold Ieee.Format.div
 generalize Ieee.double.read a=x at ha ⊢
 generalize Ieee.double.read b=y at hb ⊢
 cases y with
 |number t n j =>
  have hn:n≠0:=by simpa using hb
  cases x with
  |number s m i=>simp[Ieee.Datum.quotient,hn]
  |infinity s=>exact⟨_,rfl⟩
  |nan s f=>cases ha
 |infinity s=>cases hb
 |nan s f=>cases hb
theorem NY (f:Ieee.Format) (neg:Bool) {r:Nat} (h:r<f.signWeight):f.word neg r%f.signWeight=r:=by
 unfold Ieee.Format.word
 split
 ·rw[Nat.add_mod,Nat.mod_self,bk,Nat.mod_mod,Nat.mod_eq_of_lt h]
 exact Nat.mod_eq_of_lt h
theorem FB (neg:Bool) {r:Nat} (h:r<=Ieee.double.infRung):okB (Ieee.double.word neg r)=true:=by
 have hw:r<Ieee.double.signWeight:=Nat.lt_of_le_of_lt h Ieee.double.infRung_lt
 unfold okB Ieee.Format.read
 simp only[NY _ neg hw]
 split
 ·next e =>
  split at e
  ·cases e
  split at e
  ·cases e
  split at e
  ·cases e
  omega
 rfl
theorem Qv (neg:Bool) (m:Nat) (p:Int):okB (Ieee.double.nearest neg m p)=true:=by
 unfold Ieee.Format.nearest
 dsimp only
 split
 ·exact FB _ (aO _)
 exact FB _ (Nat.min_le_right ..)
theorem VQ (n:Int):okB (floatOfInt .f64 n)=true:=Qv _ _ _
def moveB (x:Nat) (n:Int):Nat:=if n<0 then(Ieee.double.div x (kd n.natAbs)).getD 0 else(Ieee.double.mul x (kd n.natAbs)).getD 0
def rB (s:Bytes):Option Int :=
 if s.head? = some 45 then(if 4<(s.drop 1).length then none else(cR (s.drop 1)).map fun n=>-n)
 else if 4<(if s.head? = some 43 then s.drop 1 else s).length then none else cR (if s.head? = some 43 then s.drop 1 else s)
def GB (t:Bytes) (m:Int):Option (Int×Int) :=
 if((bR 46 t).2.2=true∧(bR 46 t).2.1=[])∨15<(bR 46 t).1.length+(bR 46 t).2.1.length then none
 else match cR ((bR 46 t).1++(bR 46 t).2.1)with
  |none=>none
  |some n=>if m-((bR 46 t).2.1.length:Int) < -22∨22<m-((bR 46 t).2.1.length:Int)then none else some (n,m-((bR 46 t).2.1.length:Int))
def isE (x:UInt8):Bool:=decide (x=101∨x=69)
def nE (x:UInt8):Bool:=!isE x
def sZ (t:Bytes):Option (Int×Int):=match t.dropWhile nE with
 | []=>GB t 0
 |_::u=>match rB u with
  |none=>none
  |some m=>GB (t.takeWhile nE) m
structure Flo where
 below:Bool
 n:Int
 m:Int
def qr (f:Flo):Nat:=if f.below=true∧f.n≠0 then Op.negFloat .f64 (moveB (floatOfInt .f64 f.n) f.m)else moveB (floatOfInt .f64 f.n) f.m
def geB (b:Nat):Bool:=FloatKind.f64.format.order b 0==some .gt||FloatKind.f64.format.order b 0==some .eq
def Lm (s:Bytes):Option Flo:=if s.head? = some 45 then(sZ (s.drop 1)).map fun p=>⟨true,p.1,p.2⟩else(sZ s).map fun p=>⟨false,p.1,p.2⟩
structure dm where
 url:Bytes
 words:List Bytes
 hw:Bool
 w:Int
 hh:Bool
 h:Int
 hd:Bool
 d:Nat
def C0:dm:=⟨[],[],false,0,false,0,false,0⟩
def mI (c:dm) (word:Bytes):Option dm:=match word.getLast? with
 |none=>none
 |some l =>
  if l=119 then(match cR word.dropLast with
   |none=>none
   |some n=>if n<1∨c.hw=true∨c.hd=true then none else some {c with hw:=true,w:=n})
  else if l=104 then(match cR word.dropLast with
   |none=>none
   |some n=>if n<1∨c.hh=true∨c.hd=true then none else some {c with hh:=true,h:=n})
  else if l=120 then(match Lm word.dropLast with
   |none=>none
   |some f=>if geB (qr f)=false∨c.hw=true∨c.hh=true∨c.hd=true then none else some {c with hd:=true,d:=qr f})
  else none
def nQ (c:dm):List Bytes->Option dm
 | []=>some c
 |x::l=>match mI c x with
  |none=>none
  |some c'=>nQ c' l
def lF (ws:List Bytes):Option dm:=match nQ C0 ws with
 |none=>none
 |some c=>if c.hh=true∧c.hw=false then none else some {c with words:=ws}
def fP (x:UInt8):Bool:=decide (x=44)||iE x
def ie (x:UInt8):Bool:=!iE x
def fM:Bool->Bytes->Nat
 |_,[]=>0
 |true,x::r=>fM (decide (x≠41)) r+1
 |false,x::r=>if x=40 then fM true r+1 else if fP x=true then 0 else fM false r+1
theorem kH:∀ (s:Bytes) (i:Bool),fM i s<=s.length
 | [],i=>by cases i <;>exact ae _
 |x::r,true=>by
  have:=kH r (decide (x≠41))
  rw[fM,ag];omega
 |x::r,false=>by
  rw[fM,ag]
  split
  ·have:=kH r true;omega
  split
  ·exact aO _
  have:=kH r false;omega
def j0:Nat->Bytes->List Bytes×Bytes
 |0,s=>([],s)
 |k+1,s=>if fM false (s.dropWhile iE)=0 then([],s.dropWhile iE)
  else((s.dropWhile iE).take (fM false (s.dropWhile iE))::(j0 k ((s.dropWhile iE).drop (fM false (s.dropWhile iE)))).1,(j0 k ((s.dropWhile iE).drop (fM false (s.dropWhile iE)))).2)
def jM (s:Bytes):List Bytes×Bytes:=j0 s.length s
theorem jo (p:UInt8->Bool) (s:Bytes):(s.dropWhile p).length<=s.length:=(ct p).length_le
theorem ux:∀ (k k':Nat) (s:Bytes),s.length<=k->s.length<=k'->j0 k s=j0 k' s
 |0,0,_,_,_=>rfl
 |0,k'+1,s,h,_=>by
  have e:s=[]:=am (by omega)
  subst e;rfl
 |k+1,0,s,_,h=>by
  have e:s=[]:=am (by omega)
  subst e;rfl
 |k+1,k'+1,s,h,h'=>by
  unfold j0
  have h1:=jo iE s
  split
  ·rfl
  next hz =>
  have h2:((s.dropWhile iE).drop (fM false (s.dropWhile iE))).length<=(s.dropWhile iE).length-1:=by rw[ai];omega
  have h3:0<(s.dropWhile iE).length:=by
   have:=kH (s.dropWhile iE) false;omega
  rw[ux k k' _ (by omega) (by omega)]
theorem WE (s:Bytes):jM s=if fM false (s.dropWhile iE)=0 then([],s.dropWhile iE)
  else((s.dropWhile iE).take (fM false (s.dropWhile iE))::(jM ((s.dropWhile iE).drop (fM false (s.dropWhile iE)))).1,(jM ((s.dropWhile iE).drop (fM false (s.dropWhile iE)))).2):=by
 have h1:=jo iE s
 unfold jM
 rw[ux s.length (s.length+1) s (ae _) (fb _)]
 conv=>lhs;unfold j0
 split
 ·rfl
 rw[ux s.length _ _ (by rw[ai];omega) (ae _)]
theorem NV:∀ (k:Nat) (s:Bytes),(j0 k s).2.length<=s.length
 |0,s=>ae _
 |k+1,s=>by
  have h1:=jo iE s
  unfold j0
  split
  ·exact h1
  have:=NV k ((s.dropWhile iE).drop (fM false (s.dropWhile iE)))
  rw[ai]at this
  show(j0 k _).2.length<=_
  omega
def iG (u:Bytes):Bytes:=(u.reverse.dropWhile fun x=>decide (x=44)).reverse
def qg (u:Bytes):Bool:=decide (u.getLast? = some 44)
structure Stp where
 url:Bytes
 words:List Bytes
 rest:Bytes
def pM (t:Bytes):Stp:=if qg (t.takeWhile ie)=true then⟨iG (t.takeWhile ie),[],t.dropWhile ie⟩
 else⟨t.takeWhile ie,(jM (t.dropWhile ie)).1,(jM (t.dropWhile ie)).2.drop 1⟩
def xk (q:Stp) (l:List dm):List dm:=match lF q.words with
 |none=>l
 |some c=>{c with url:=q.url}::l
def nP:Nat->Bytes->List dm
 |0,_=>[]
 |k+1,s=>if s.dropWhile fP=[]then []else xk (pM (s.dropWhile fP)) (nP k (pM (s.dropWhile fP)).rest)
def nz (s:Bytes):List dm:=nP s.length s
theorem dw_head {p:UInt8->Bool}:∀ {s:Bytes},s.dropWhile p ≠ []->∃ x r,s.dropWhile p=x::r∧p x=false
 | [],h=>absurd rfl h
 |x::r,h=>by
  cases hp:p x with
  |true=>rw[bh hp]at h ⊢;exact dw_head h
  |false=>exact⟨x,r,im hp,hp⟩
theorem SH {x:UInt8} (h:fP x=false):ie x=true:=by
 unfold fP at h
 unfold ie
 cases hb:iE x with
 |true=>rw[hb,Bool.or_true]at h;cases h
 |false=>rfl
theorem DK {s:Bytes} (h:s.dropWhile fP ≠ []):(pM (s.dropWhile fP)).rest.length<s.length:=by
 have h1:=jo fP s
 obtain⟨x,r,e,hx⟩:=dw_head h
 rw[e]at h1 ⊢
 have h2:((x::r).dropWhile ie).length<=r.length:=by rw[bh (SH hx)];exact jo _ _
 rw[ag]at h1
 unfold pM
 split
 ·show((x::r).dropWhile ie).length<_;omega
 show((jM ((x::r).dropWhile ie)).2.drop 1).length<_
 have h3:(jM ((x::r).dropWhile ie)).2.length<=((x::r).dropWhile ie).length:=NV _ _
 rw[ai];omega
theorem ui:∀ (k k':Nat) (s:Bytes),s.length<=k->s.length<=k'->nP k s=nP k' s
 |0,0,_,_,_=>rfl
 |0,k'+1,s,h,_=>by
  have e:s=[]:=am (by omega)
  subst e;rfl
 |k+1,0,s,_,h=>by
  have e:s=[]:=am (by omega)
  subst e;rfl
 |k+1,k'+1,s,h,h'=>by
  unfold nP
  split
  ·rfl
  next hz =>
  have:=DK hz
  rw[ui k k' _ (by omega) (by omega)]
theorem Ws (s:Bytes):nz s=if s.dropWhile fP=[]then []else xk (pM (s.dropWhile fP)) (nz (pM (s.dropWhile fP)).rest):=by
 unfold nz
 rw[ui s.length (s.length+1) s (ae _) (fb _)]
 conv=>lhs;unfold nP
 split
 ·rfl
 next hz =>
 have:=DK hz
 rw[ui s.length _ _ (by omega) (ae _)]

theorem vr {c:UInt8}:∀ {s:Bytes},c∉s->bR c s=(s,[],false)
 | [],_=>rfl
 |x::t,h=>by rw[bR,if_neg (fun e=>h (by simp[e])),vr (s:=t) (fun h2=>h (by simp[h2]))]
theorem BP {c:UInt8} (a b:Bytes) (h:c∉a):bR c (a++c::b)=(a,b,true):=by
 induction a with
 |nil=>rw[bW,bR,if_pos rfl]
 |cons x r ih=>rw[bI,bR,if_neg (fun e=>h (by simp[e])),ih (fun h2=>h (by simp[h2]))]
theorem xw (c:UInt8):∀ s:Bytes,c∉(bR c s).1
 | []=>by simp[bR]
 |x::t=>by
  rw[bR]
  split
  ·simp
  next h =>
  intro hm
  rcases aN.mp hm with hm|hm
  ·exact h hm.symm
  exact xw c t hm
theorem kR (c:UInt8):∀ s:Bytes,s=(bR c s).1++(if(bR c s).2.2=true then c::(bR c s).2.1 else [])
 | []=>rfl
 |x::t=>by
  rw[bR]
  split
  ·next h=>rw[if_pos rfl,h];rfl
  rw[bI,<-kR c t]
theorem fu (c:UInt8):∀ s:Bytes,(bR c s).2.2=false->(bR c s).2.1=[]
 | [],_=>rfl
 |x::t,h=>by
  rw[bR]at h ⊢
  split at h
  ·cases h
  next hx=>rw[if_neg hx];exact fu c t h
theorem rZ (sp:Bool):∀ s,∃p ps,fI sp s=p::ps
 | []=>⟨_,_,rfl⟩
 |c::t=>by
  rw[fI]
  split
  ·exact⟨_,_,rfl⟩
  obtain⟨p,ps,h⟩:=rZ sp t
  rw[h];exact⟨_,_,rfl⟩
theorem Dz {sp:Bool} {p:Bytes} (h:∀ y∈p,kE sp y=false):fI sp p=[p]:=by
 induction p with
 |nil=>rfl
 |cons x r ih =>
  rw[fI,if_neg (by rw[h x (by simp)];simp),ih (fun y hy=>h y (by simp[hy]))]

theorem Ht:∀ k:Fin 256,(uI 4 (UInt8.ofNat k.val)).all (fun y=>!jW 4 (b2 y)&&(y==UInt8.ofNat k.val||y==37||(decide (48<=b2 y∧b2 y<=57)||decide (65<=b2 y∧b2 y<=70))))=true:=by decide +kernel
theorem Fi {l:Bytes} {y:UInt8} (h:y∈df 4 l):jW 4 (b2 y)=false∧(y∈l∨y=37∨(48<=b2 y∧b2 y<=57)∨(65<=b2 y∧b2 y<=70)):=by
 obtain⟨x,hx,hy⟩:=lE.mp h
 have hf:=Ht ⟨x.toNat,x.toNat_lt⟩
 simp only[cC]at hf
 have:=ch.mp hf y hy
 simp only[dC,je,Bool.not_eq_true',beq_iff_eq,decide_eq_true_eq]at this
 obtain⟨h1,h2⟩:=this
 refine⟨h1,?_⟩
 rcases h2 with(h2|h2)|h2
 ·exact .inl (h2▸hx)
 ·exact .inr (.inl h2)
 exact .inr (.inr h2)
theorem M7 (l:Bytes):df 4 (df 4 l)=df 4 l:=ya fun _ hy=>(Fi hy).1
theorem V6 {sp:Bool} {l:Bytes} (h:∀ y∈l,kE sp y=false):∀ y∈df 4 l,kE sp y=false:=by
 intro y hy
 rcases(Fi hy).2 with h1|h1|h1
 ·exact h y h1
 ·subst h1;cases sp <;>rfl
 have e47:b2 47=47:=by decide
 have e92:b2 92=92:=by decide
 have n1:y≠47:=fun e=>by rw[e]at h1;omega
 have n2:y≠92:=fun e=>by rw[e]at h1;omega
 unfold kE
 simp[n1,n2]
theorem fC (set:Int) (c:UInt8) (t:Bytes):df set (c::t)=uI set c++df set t:=by unfold df;simp
theorem tL {set:Int} {c:UInt8} (h:jW set (b2 c)=true):uI set c=[37,nt (c.toNat/16),nt (c.toNat%16)]:=by unfold uI;rw[if_pos h]
theorem iR {set:Int} {c:UInt8} (h:jW set (b2 c)=false):uI set c=[c]:=by unfold uI;rw[if_neg (by simp[h])]
theorem GR:∀ k:Fin 256,jW 4 (b2 (UInt8.ofNat k.val))=true->UInt8.ofNat k.val≠46∧UInt8.ofNat k.val≠37∧UInt8.ofNat k.val≠50∧UInt8.ofNat k.val≠101∧UInt8.ofNat k.val≠69∧(nt (k.val/16)=50->nt (k.val%16)≠101∧nt (k.val%16)≠69):=by decide +kernel
theorem VO {c:UInt8} (h:jW 4 (b2 c)=true):c≠46∧c≠37∧c≠50∧c≠101∧c≠69∧(nt (c.toNat/16)=50->nt (c.toNat%16)≠101∧nt (c.toNat%16)≠69):=by
 have:=GR ⟨c.toNat,c.toNat_lt⟩
 simp only[cC]at this
 exact this h
theorem By (t:Bytes):gi (46::t)=some t:=by unfold gi;dsimp only;rw[if_pos rfl]
theorem iV {c:UInt8} (h1:c≠46) (h2:c≠37) (t:Bytes):gi (c::t)=none:=by
 unfold gi
 dsimp only
 rw[if_neg h1]
 split
 ·next h=>exact absurd rfl h2
 rfl
theorem mQ (y:UInt8) (r:Bytes):gi (37::50::y::r)=if y=101∨y=69 then some r else none:=by
 unfold gi
 dsimp only
 rw[if_neg (by decide)]
 rfl
theorem l7 {d:UInt8} (h:d≠50) (t:Bytes):gi (37::d::t)=none:=by
 unfold gi
 dsimp only
 rw[if_neg (by decide)]
 split
 ·rename_i heq
  first
   |(injection heq with e1 e2;exact absurd e1 h)
   |exact absurd heq h
 rfl
theorem Kj:∀ p:Bytes,gi (df 4 p)=(gi p).map (df 4)
 | []=>rfl
 |c::t=>by
  cases hc:jW 4 (b2 c)with
  |true =>
   obtain⟨h1,h2,_,_,_,h6⟩:=VO hc
   rw[fC,tL hc,iV h1 h2]
   show gi (37::nt (c.toNat/16)::nt (c.toNat%16)::df 4 t)=none
   by_cases h50:nt (c.toNat/16)=50
   ·rw[h50,mQ,if_neg (by have:=h6 h50;simp[this.1,this.2])]
   exact l7 h50 _
  |false =>
   rw[fC,iR hc]
   show gi (c::df 4 t)=_
   by_cases h46:c=46
   ·subst h46;rw[By,By];rfl
   by_cases h37:c=37
   ·subst h37
    cases t with
    |nil=>rfl
    |cons d t2 =>
     by_cases hd:d=50
     ·subst hd
      have e50:jW 4 (b2 50)=false:=by decide
      rw[fC,iR e50]
      show gi (37::50::df 4 t2)=_
      cases t2 with
      |nil=>rfl
      |cons y r =>
       rw[mQ]
       by_cases hy:y=101∨y=69
       ·have ey:jW 4 (b2 y)=false:=by rcases hy with rfl|rfl <;>decide
        rw[if_pos hy,fC,iR ey]
        show gi (37::50::y::df 4 r)=_
        rw[mQ,if_pos hy];rfl
       rw[if_neg hy,fC]
       cases hi:jW 4 (b2 y)with
       |true =>
        rw[tL hi]
        show gi (37::50::37::_)=none
        rw[mQ,if_neg (by decide)]
       |false =>
        rw[iR hi]
        show gi (37::50::y::_)=none
        rw[mQ,if_neg hy]
     rw[l7 hd,fC]
     cases hi:jW 4 (b2 d)with
     |true =>
      rw[tL hi]
      exact l7 (by decide) _
     |false =>
      rw[iR hi]
      exact l7 hd _
   rw[iV h46 h37,iV h46 h37];rfl
theorem QE {l:Bytes}:df 4 l=[] ↔ l=[]:=by
 constructor
 ·intro h
  cases l with
  |nil=>rfl
  |cons c t =>
   rw[fC]at h
   have:=(List.append_eq_nil_iff.mp h).1
   unfold uI at this
   split at this <;>cases this
 rintro rfl;rfl
theorem KO (p:Bytes):jr (df 4 p)=jr p:=by
 unfold jr
 rw[Kj]
 cases gi p with
 |none=>rfl
 |some r =>
  rw[cg]
  simp only[uN,beq_iff_eq,ko]
  exact QE
theorem Pv (p:Bytes):ip (df 4 p)=ip p:=by
 unfold ip
 rw[Kj]
 cases gi p with
 |none=>rfl
 |some r=>exact KO r

structure yE (sp:Bool) (p:Bytes):Prop where
 e:df 4 p=p
 s:∀ y∈p,kE sp y=false
 d:jr p=false
 dd:ip p=false
theorem Fj (sp:Bool):yE sp []:=⟨rfl,fun _ h=>(by cases h),rfl,rfl⟩
theorem V7 {sp:Bool} {p:Bytes} (hs:∀ y∈p,kE sp y=false) (h1:jr p=false) (h2:ip p=false):yE sp (df 4 p) :=
 ⟨M7 p,V6 hs,by rw[KO];exact h1,by rw[Pv];exact h2⟩
theorem Gs {sp:Bool} {p:Bytes} (h:dp p=true):yE sp (p.take 1++[58]):=by
 match p,h with
 | [a,b],h =>
  have key:∀ k:Fin 256,iq (b2 (UInt8.ofNat k.val))=true->jW 4 (b2 (UInt8.ofNat k.val))=false∧UInt8.ofNat k.val≠47∧UInt8.ofNat k.val≠92∧UInt8.ofNat k.val≠46∧UInt8.ofNat k.val≠37:=by decide +kernel
  have ha:iq (b2 a)=true:=by
   unfold dp at h
   rw[dC]at h
   exact h.1
  have hk:=key ⟨a.toNat,a.toNat_lt⟩
  simp only[cC]at hk
  obtain⟨h1,h2,h3,h4,h5⟩:=hk ha
  have e58:jW 4 (b2 58)=false:=by decide
  show yE sp [a,58]
  refine⟨?_,?_,?_,?_⟩
  ·rw[fC,iR h1,fC,iR e58];rfl
  ·intro y hy
   simp only[aN,ci,or_false]at hy
   rcases hy with rfl|rfl
   ·unfold kE;simp[h2,h3]
   cases sp <;>rfl
  ·unfold jr;rw[iV h4 h5];rfl
  unfold ip;rw[iV h4 h5]
theorem jb {aC:Bytes} {p:List Bytes} {x:Bytes} (h:x∈bU aC p):x∈p:=by
 match p,h with
 | [],h=>cases h
 | [y],h =>
  unfold bU at h
  dsimp only at h
  split at h
  ·exact h
  cases h
 |y::z::r,h=>exact lT _ h
theorem Au {aC:Bytes} {sp:Bool} {out:List Bytes} {p:Bytes} {last:Bool} (ho:∀ x∈out,yE sp x) (hp:∀ y∈p,kE sp y=false):∀ x∈jL aC out p last,yE sp x:=by
 have app:∀ (l:List Bytes) (q:Bytes),(∀x∈l,yE sp x)->yE sp q->∀ x∈l++[q],yE sp x:=by
  intro l q hl hq x hx
  rcases bl.mp hx with hx|hx
  ·exact hl x hx
  rw[da.mp hx];exact hq
 have sh:∀ x∈bU aC out,yE sp x:=fun x hx=>ho x (jb hx)
 unfold jL
 split
 ·split
  ·exact app _ _ sh (Fj sp)
  exact sh
 next hdd =>
 split
 ·split
  ·exact app _ _ ho (Fj sp)
  exact ho
 next hd =>
 split
 ·next hf=>exact app _ _ ho (Gs hf.2.2)
 exact app _ _ ho (V7 hp (by simpa using hd) (by simpa using hdd))
theorem wE {aC:Bytes} {sp:Bool}:∀ (ps out:List Bytes),(∀x∈out,yE sp x)->(∀p∈ps,∀y∈p,kE sp y=false)->∀ x∈ju aC out ps,yE sp x
 | [],out,ho,_=>ho
 | [p],out,ho,hp=>Au ho (hp p (by simp))
 |p::q::r,out,ho,hp=>wE (q::r) _ (Au ho (hp p (by simp))) (fun z hz=>hp z (by simp only[aN]at hz ⊢;exact .inr hz))
theorem Fs {sp:Bool}:∀ s:Bytes,∀p∈fI sp s,∀y∈p,kE sp y=false
 | [],p,h,y,hy=>by
  have:p=[]:=by simpa[fI]using h
  subst this;cases hy
 |c::t,p,h,y,hy=>by
  have ih:=Fs (sp:=sp) t
  rw[fI]at h
  split at h
  ·rcases aN.mp h with rfl|h
   ·cases hy
   exact ih p h y hy
  next hc =>
  obtain⟨q,qs,hq⟩:=rZ sp t
  rw[hq]at h ih
  rcases aN.mp h with rfl|h
  ·rcases aN.mp hy with rfl|hy
   ·simpa using hc
   exact ih q (by simp) y hy
  exact ih p (by simp[h]) y hy
theorem gB {aC:Bytes} {path:List Bytes} {s:Bytes} (h:∀ x∈path,yE (ep aC) x):∀ x∈cL aC path s,yE (ep aC) x :=
 wE _ _ h (Fs s)
theorem QR {aC:Bytes} {out:List Bytes} {p:Bytes}:jL aC out p true ≠ []:=by
 unfold jL
 split
 ·rw[if_pos rfl];simp
 split
 ·rw[if_pos rfl];simp
 split <;>simp
theorem Ar {aC:Bytes}:∀ (ps out:List Bytes),ps ≠ []->ju aC out ps ≠ []
 | [],_,h=>absurd rfl h
 | [p],out,_=>QR
 |p::q::r,out,_=>Ar (q::r) _ (by simp)
theorem iS {aC:Bytes} {path:List Bytes} {s:Bytes}:cL aC path s ≠ []:=by
 unfold cL
 refine Ar _ _ ?_
 obtain⟨p,ps,h⟩:=rZ (ep aC) s
 rw[h];simp

def fE (aC:Bytes) (out:List Bytes):Prop:=aC=aR->∀ p,out.head? = some p->dp p=true->iF p=true
theorem Tf (set:Int):∀ l:Bytes,l.length<=(df set l).length
 | []=>aO _
 |c::t=>by
  have:=Tf set t
  rw[fC,af,ag]
  have:1<=(uI set c).length:=by unfold uI;split <;>simp
  omega
theorem KQ {p:Bytes} (h:dp (df 4 p)=true):dp p=true:=by
 cases p with
 |nil=>exact h
 |cons a t =>
  rw[fC]at h
  cases ha:jW 4 (b2 a)with
  |true =>
   rw[tL ha]at h
   cases ht:df 4 t with
   |nil=>rw[ht]at h;cases h
   |cons x r=>rw[ht]at h;cases h
  |false =>
   rw[iR ha]at h
   cases t with
   |nil=>cases h
   |cons b t2 =>
    rw[fC]at h
    cases hb:jW 4 (b2 b)with
    |true =>
     rw[tL hb]at h
     cases h
    |false =>
     rw[iR hb]at h
     cases t2 with
     |nil=>exact h
     |cons c t3 =>
      have hl:=Tf 4 (c::t3)
      cases hc:df 4 (c::t3)with
      |nil=>rw[hc]at hl;simp at hl
      |cons x r=>rw[hc]at h;cases h
theorem mV {aC:Bytes} {out:List Bytes} {q:Bytes} (h:fE aC out) (hq:aC=aR->out=[]->dp q=true->iF q=true):fE aC (out++[q]):=by
 intro hs p hp hd
 cases out with
 |nil =>
  injection hp with hp
  subst hp
  exact hq hs rfl hd
 |cons x r =>
  rw[bI]at hp
  exact h hs p hp hd
theorem jU {aC:Bytes} {out:List Bytes} (h:fE aC out):fE aC (bU aC out):=by
 match out,h with
 | [],h=>exact h
 | [y],h =>
  unfold bU
  dsimp only
  split
  ·exact h
  intro _ p hp;cases hp
 |y::z::r,h =>
  intro hs p hp hd
  refine h hs p ?_ hd
  have e:bU aC (y::z::r)=y::(z::r).dropLast:=rfl
  rw[e]at hp
  exact hp
theorem tY {aC:Bytes} {out:List Bytes} {p:Bytes} {last:Bool} (h:fE aC out):fE aC (jL aC out p last):=by
 unfold jL
 split
 ·split
  ·exact mV (jU h) (fun _ _ hd=>by cases hd)
  exact jU h
 split
 ·split
  ·exact mV h (fun _ _ hd=>by cases hd)
  exact h
 split
 ·next hf =>
  refine mV h (fun _ _ _=>?_)
  have hd:=hf.2.2
  match p,hd with
  | [a,b],hd =>
   unfold dp at hd
   rw[dC]at hd
   show iF [a,58]=true
   show(iq (b2 a)&&(58:UInt8)==58)=true
   rw[hd.1];rfl
 next hf=>exact mV h (fun hs ho hd=>absurd ⟨hs,ho,KQ hd⟩ hf)
theorem rl {aC:Bytes}:∀ (ps out:List Bytes),fE aC out->fE aC (ju aC out ps)
 | [],_,h=>h
 | [_],_,h=>tY h
 |_::q::r,_,h=>rl (q::r) _ (tY h)
theorem eI {aC:Bytes} {path:List Bytes} {s:Bytes} (h:fE aC path):fE aC (cL aC path s):=rl _ _ h

def vh (s:Bytes):Prop:=tX s=true∧s.map dc=s
theorem He:∀ k:Fin 256,nw (b2 (UInt8.ofNat k.val))=true->nw (b2 (dc (UInt8.ofNat k.val)))=true∧(iq (b2 (UInt8.ofNat k.val))=true->iq (b2 (dc (UInt8.ofNat k.val)))=true)∧dc (dc (UInt8.ofNat k.val))=dc (UInt8.ofNat k.val)∧UInt8.ofNat k.val≠58∧UInt8.ofNat k.val≠35∧UInt8.ofNat k.val≠63∧32<b2 (UInt8.ofNat k.val)∧b2 (UInt8.ofNat k.val)<=126:=by decide +kernel
theorem CW {c:UInt8} (h:nw (b2 c)=true):nw (b2 (dc c))=true∧(iq (b2 c)=true->iq (b2 (dc c))=true)∧dc (dc c)=dc c∧c≠58∧c≠35∧c≠63∧32<b2 c∧b2 c<=126:=by
 have:=He ⟨c.toNat,c.toNat_lt⟩
 simp only[cC]at this
 exact this h
theorem QP {s:Bytes} (h:tX s=true):∀ y∈s,nw (b2 y)=true:=by
 cases s with
 |nil=>cases h
 |cons c t =>
  unfold tX at h
  rw[dC]at h
  intro y hy
  rcases aN.mp hy with rfl|hy
  ·unfold nw;rw[h.1];rfl
  exact ch.mp h.2 y hy
theorem QQ {s:Bytes} (h:tX s=true):vh (s.map dc):=by
 have ha:=QP h
 refine⟨?_,?_⟩
 ·cases s with
  |nil=>cases h
  |cons c t =>
   unfold tX at h
   rw[dC]at h
   show(iq (b2 (dc c))&&(t.map dc).all fun y=>nw (b2 y))=true
   rw[dC]
   refine⟨(CW (ha c (by simp))).2.1 h.1,ch.mpr fun y hy=>?_⟩
   obtain⟨x,hx,rfl⟩:=kj.mp hy
   exact(CW (ha x (by simp[hx]))).1
 rw[nF]
 refine iC fun x hx=>?_
 exact(CW (ha x hx)).2.2.1

def Enc (set:Int):Prop:=∀ k:Fin 256,(uI set (UInt8.ofNat k.val)).all (fun y=>!jW set (b2 y)&&decide (32<b2 y∧b2 y<=126))=true
theorem enc1:Enc 1:=by unfold Enc;decide +kernel
theorem enc2:Enc 2:=by unfold Enc;decide +kernel
theorem enc3:Enc 3:=by unfold Enc;decide +kernel
theorem UT {set:Int} (h:Enc set) {l:Bytes}:∀ y∈df set l,jW set (b2 y)=false∧32<b2 y∧b2 y<=126:=by
 intro y hy
 obtain⟨x,_,hy⟩:=lE.mp hy
 have hf:=h ⟨x.toNat,x.toNat_lt⟩
 simp only[cC]at hf
 have:=ch.mp hf y hy
 simpa using this
theorem sP {set:Int} (h:Enc set) (l:Bytes):df set (df set l)=df set l:=ya fun y hy=>(UT h y hy).1
def QT (aC:Bytes):Int:=if ep aC=true then 3 else 2
theorem ND (aC:Bytes):Enc (QT aC):=by
 unfold QT
 split
 ·exact enc3
 exact enc2
def gT (c:UInt8):Bool:=decide (b2 c<=32)
def pA (c:UInt8):Bool:=!(c==9||c==10||c==13)
theorem MO {c:UInt8} (h:pA c=false):gT c=true:=by
 unfold pA at h
 simp only[Bool.not_eq_false',je,beq_iff_eq]at h
 rcases h with(rfl|rfl)|rfl <;>decide
theorem jS:∀ s:Bytes,(s.filter pA).dropWhile gT=(s.dropWhile gT).filter pA
 | []=>rfl
 |c::t=>by
  cases hp:gT c with
  |true =>
   rw[bh hp]
   cases hq:pA c with
   |true=>rw[bn hq,bh hp,jS t]
   |false=>rw[bm (by simp[hq]),jS t]
  |false =>
   have hq:pA c=true:=by
    cases h:pA c with
    |true=>rfl
    |false=>rw[MO h]at hp;cases hp
   rw[bC (by simp[hp]),bn hq,bC (by simp[hp])]
theorem Kv (s:Bytes):ef s=trimF (gC s):=by
 show(((s.dropWhile gT).reverse.dropWhile gT).reverse).filter pA=(((s.filter pA).dropWhile gT).reverse.dropWhile gT).reverse
 rw[jS,<-List.filter_reverse,jS,List.filter_reverse]
theorem Ca (p:UInt8->Bool) (l:Bytes):∀ x,(l.dropWhile p).head? = some x->p x=false:=by
 induction l with
 |nil=>intro x h;cases h
 |cons c t ih =>
  intro x h
  cases hp:p c with
  |true=>rw[bh hp]at h;exact ih x h
  |false =>
   rw[bC (by simp[hp])]at h
   injection h with h
   rw[<-h];exact hp
theorem kZ (p:UInt8->Bool) (l:Bytes):∃ a,l=a++l.dropWhile p:=⟨l.takeWhile p,(ft).symm⟩
theorem Iq (s:Bytes):∀ x,(trimF s).getLast? = some x->¬ b2 x<=32:=by
 intro x h
 unfold trimF at h
 rw[List.getLast?_reverse]at h
 have:=Ca _ _ x h
 simpa using this
theorem BM (s:Bytes):∀ x,(ef s).getLast? = some x->¬ b2 x<=32:=by rw[Kv];exact Iq _
structure qV (p:jP):Prop where
 s:p.fQ=true->vh p.aC
 q:p.bP=false->p.q=[]
 f:p.bS=false->p.f=[]
 r:(35:UInt8)∉p.rest∧(63:UInt8)∉p.rest
 e:p.bP=false->p.bS=false->p.rest.getLast? ≠ some 32
theorem sy {c y:UInt8} {s:Bytes} (h:y∈(bR c s).1∨y∈(bR c s).2.1):y∈s:=by
 rw[kR c s]
 rcases h with h|h
 ·exact List.mem_append_left _ h
 by_cases hf:(bR c s).2.2=true
 ·rw[if_pos hf];exact List.mem_append_right _ (ej _ h)
 rw[fu c s (by simpa using hf)]at h;cases h
theorem ze {c:UInt8} {s:Bytes} (h:(bR c s).2.2=false):(bR c s).1=s:=by
 have:=kR c s
 rw[if_neg (by simp[h]),aV]at this
 exact this.symm
theorem NG (c:Bytes) (hl:∀ x,c.getLast? = some x->¬ b2 x<=32):qV (eJ c):=by
 have n1:=xw 35 c
 have n2:=xw 63 (bR 35 c).1
 have key:(bR 35 c).2.2=false->(bR 63 (bR 35 c).1).2.2=false->(bR 63 (bR 35 c).1).1=c:=fun h1 h2=>(ze h2).trans (ze h1)
 have hm:∀ y,y∈(bR 63 (bR 35 c).1).1->y∈(bR 35 c).1:=fun y hy=>sy (.inl hy)
 have hb:=kR 58 (bR 63 (bR 35 c).1).1
 unfold eJ
 dsimp only
 split
 ·next hc =>
  refine⟨fun _=>QQ hc.2,fu 63 _,fu 35 _,⟨fun h=>n1 (hm _ (sy (.inr h))),fun h=>n2 (sy (.inr h))⟩,fun h1 h2 h3=>?_⟩
  have e:=key h2 h1
  rw[if_pos hc.1]at hb
  have:c.getLast? = some 32:=by
   rw[<-e,hb,yD,List.getLast?_cons]
   rw[h3]
   rfl
  exact hl _ this (by decide)
 refine⟨fun h=>(by cases h),fu 63 _,fu 35 _,⟨fun h=>n1 (hm _ h),n2⟩,fun h1 h2 h3=>?_⟩
 have e:=key h2 h1
 rw[e]at h3
 exact hl _ h3 (by decide)
theorem Nd (s:Bytes):qV (eJ (ef s)):=NG _ (BM s)
def MF:Bytes:=[108,111,99,97,108,104,111,115,116]
def Ei (u:Url):oL:=⟨u.usr,u.ed,u.host,u.aZ,u.port⟩
structure vf (v:Url):Prop where
 u:v.usr=[]
 p:v.ed=[]
 h:v.aZ=false
 n:v.port=0
inductive Body (u:Url):Prop where
 |opq (h1:u.opq=true) (h2:ep u.aC=false) (h3:u.host=H0) (h4:u.path=[]) (h5:vf u) (h7:df 0 u.flat=u.flat) (h8:u.flat.head? ≠ some 47) (h9:u.flat.getLast? ≠ some 32) (h10:(35:UInt8)∉u.flat∧(63:UInt8)∉u.flat)
 |none (h1:u.opq=false) (h2:ep u.aC=false) (h3:u.host=H0) (h5:vf u) (hp:u.path ≠ [])
 |file (h1:u.opq=false) (hs:u.aC=aR) (h3:u.host={H0 with kind:=1}∨∃ n,n ≠ []∧el n true=some u.host∧¬ (u.host.kind=2∧u.host.name=MF)) (h5:vf u) (hp:u.path ≠ [])
 |asked (h1:u.opq=false) (hs:u.aC≠aR) (ha:AOk u.aC (Ei u)) (hp:ep u.aC=true->u.path ≠ [])
structure Good (u:Url):Prop where
 aC:vh u.aC
 q:u.bP=false->u.q=[]
 qe:df (QT u.aC) u.q=u.q
 f:u.bS=false->u.f=[]
 fe:df 1 u.f=u.f
 pc:∀ x∈u.path,yE (ep u.aC) x
 fi:fE u.aC u.path
 fl:u.opq=false->u.flat=[]
 body:Body u
structure HdU (aC:Bytes) (u:Url):Prop where
 q:u.bP=false->u.q=[]
 qe:df (QT aC) u.q=u.q
 f:u.bS=false->u.f=[]
 fe:df 1 u.f=u.f
theorem ph {p:jP} (hp:qV p) (aC:Bytes):HdU aC (cQ aC p):=by
 refine⟨fun h=>?_,?_,fun h=>?_,?_⟩
 ·show df _ p.q=[]
  rw[hp.q h];rfl
 ·exact sP (ND aC) p.q
 ·show df 1 p.f=[]
  rw[hp.f h];rfl
 exact sP enc1 p.f
theorem fx (aC:Bytes):fE aC []:=fun _ _ h=>(by cases h)
theorem m8 {aC s:Bytes}:∀ x∈fU aC s,yE (ep aC) x:=gB (fun _ h=>(by cases h))
theorem jX {aC s:Bytes}:fE aC (fU aC s):=eI (fx aC)
theorem pB {aC s:Bytes}:fU aC s ≠ []:=iS
theorem oQ {aC s:Bytes} {p:jP} {u:Url} (hp:qV p) (hs:vh aC) (hf:aC≠aR) (h:iI (cQ aC p) s=some u):Good u:=by
 have hd:=ph hp aC
 unfold iI at h
 dsimp only at h
 have e0:(cQ aC p).aC=aC:=rfl
 rw[e0]at h
 cases ha:jk aC (dA (ep aC) s).1 with
 |none=>rw[ha]at h;cases h
 |some a =>
  rw[ha]at h
  injection h with h
  have hok:=El ha
  by_cases hc:ep aC=true∨(dA (ep aC) s).2 ≠ []
  ·rw[if_pos hc]at h
   subst h
   exact⟨hs,hd.q,hd.qe,hd.f,hd.fe,m8,jX,fun _=>rfl,.asked rfl hf hok (fun _=>pB)⟩
  rw[if_neg hc]at h
  subst h
  refine⟨hs,hd.q,hd.qe,hd.f,hd.fe,fun _ h=>(by cases h),fx _,fun _=>rfl,.asked rfl hf hok (fun h=>absurd (.inl h) hc)⟩
theorem sV:ep aR=true:=by decide
theorem Lg:vh aR:=by constructor <;>decide
structure Jg (u:Url):Prop where
 h3:u.host={H0 with kind:=1}∨∃ n,n ≠ []∧el n true=some u.host∧¬ (u.host.kind=2∧u.host.name=MF)
 h5:vf u
theorem eY {u:Url} (hd:HdU aR u) (e:u.aC=aR) (h1:u.opq=false) (hfl:u.flat=[]) (ok:Jg u) (hpc:∀ x∈u.path,yE (ep aR) x) (hfi:fE aR u.path) (hne:u.path ≠ []):Good u :=
 ⟨by rw[e];exact Lg,hd.q,by rw[e];exact hd.qe,hd.f,hd.fe,by rw[e];exact hpc,by rw[e];exact hfi,fun _=>hfl,.file h1 e ok.h3 ok.h5 hne⟩
theorem Da {u0 u:Url} {s:Bytes} (hd:HdU aR u0) (e:u0.aC=aR) (h1:u0.opq=false) (hfl:u0.flat=[]) (hw:vf u0) (hh:u0.host={H0 with kind:=1}) (h:gu u0 s=some u):Good u:=by
 have hd2:HdU aR u0:=hd
 unfold gu at h
 dsimp only at h
 rw[e]at h
 split at h
 ·injection h with h
  subst h
  exact eY ⟨hd.q,hd.qe,hd.f,hd.fe⟩ rfl h1 hfl ⟨.inl hh,⟨hw.u,hw.p,hw.h,hw.n⟩⟩ (gB (fun _ h=>(by cases h))) (eI (fx _)) iS
 split at h
 ·injection h with h
  subst h
  exact eY ⟨hd.q,hd.qe,hd.f,hd.fe⟩ rfl h1 hfl ⟨.inl hh,⟨hw.u,hw.p,hw.h,hw.n⟩⟩ m8 jX pB
 next hne =>
 cases hg:el (dA true s).1 true with
 |none=>rw[hg]at h;cases h
 |some g =>
  rw[hg]at h
  injection h with h
  by_cases hl:g.kind=2∧g.name=[108,111,99,97,108,104,111,115,116]
  ·rw[if_pos hl]at h
   subst h
   exact eY ⟨hd.q,hd.qe,hd.f,hd.fe⟩ rfl h1 hfl ⟨.inl hh,⟨hw.u,hw.p,hw.h,hw.n⟩⟩ m8 jX pB
  rw[if_neg hl]at h
  subst h
  exact eY ⟨hd.q,hd.qe,hd.f,hd.fe⟩ rfl h1 hfl ⟨.inr ⟨_,hne,hg,hl⟩,⟨hw.u,hw.p,hw.h,hw.n⟩⟩ m8 jX pB
theorem zQ {b:Url} (hb:Good b) (e:b.aC=aR):Jg b∧b.path ≠ []:=by
 cases hb.body with
 |opq h1 h2=>rw[e,sV]at h2;cases h2
 |none h1 h2=>rw[e,sV]at h2;cases h2
 |file h1 hs h3 h5 hp=>exact⟨⟨h3,h5⟩,hp⟩
 |asked h1 hs=>exact absurd e hs
theorem pz {sp:Bool}:∀ x∈([]:List Bytes),yE sp x:=fun _ h=>(by cases h)
theorem Qe (c:Prop) [Decidable c] {l:List Bytes} {x:Bytes} (h:x∈if c then l.take 1 else []):x∈l:=by
 by_cases hc:c
 ·rw[if_pos hc]at h;exact a9I h
 rw[if_neg hc]at h;cases h
theorem Mc (c:Prop) [Decidable c] {aC:Bytes} {l:List Bytes} (h:fE aC l):fE aC (if c then l.take 1 else []):=by
 by_cases hc:c
 ·rw[if_pos hc]
  intro h1 q hq
  cases l with
  |nil=>cases hq
  |cons y r=>exact h h1 q hq
 rw[if_neg hc];exact fx aC
theorem Gy {b:Url} {p:jP} {u:Url} (hp:qV p) (hb:b.aC=aR->Good b) (h:kx b p=some u):Good u:=by
 have hd:=ph hp aR
 unfold kx at h
 dsimp only at h
 have hw0:vf (cQ aR p):=⟨rfl,rfl,rfl,rfl⟩
 split at h
 ·exact Da (u0:={cQ aR p with host:={H0 with kind:=1}}) ⟨hd.q,hd.qe,hd.f,hd.fe⟩ rfl rfl rfl ⟨rfl,rfl,rfl,rfl⟩ rfl h
 by_cases hf:b.aC=aR
 ·have gb:=hb hf
  obtain⟨⟨ok3,ok5⟩,hne⟩:=zQ gb hf
  have YY:=gb.pc
  have YW:=gb.fi
  rw[hf]at YY YW
  simp only[hf,decide_true,if_true,true_and]at h
  split at h
  ·injection h with h
   subst h
   exact eY ⟨hd.q,hd.qe,hd.f,hd.fe⟩ rfl rfl rfl ⟨ok3,⟨rfl,rfl,rfl,rfl⟩⟩ (gB fun x hx=>YY x (Qe _ hx)) (eI (Mc _ YW)) iS
  split at h
  ·injection h with h
   subst h
   unfold eV
   split
   ·next hq=>exact eY ⟨hd.q,hd.qe,hd.f,hd.fe⟩ rfl rfl rfl ⟨ok3,⟨rfl,rfl,rfl,rfl⟩⟩ YY YW hne
   exact eY ⟨gb.q,by have:=gb.qe;rw[hf]at this;exact this,hd.f,hd.fe⟩ rfl rfl rfl ⟨ok3,⟨rfl,rfl,rfl,rfl⟩⟩ YY YW hne
  split at h
  ·injection h with h
   subst h
   exact eY ⟨hd.q,hd.qe,hd.f,hd.fe⟩ rfl rfl rfl ⟨ok3,⟨rfl,rfl,rfl,rfl⟩⟩ (gB fun x hx=>YY x (jb hx)) (eI (jU YW)) iS
  injection h with h
  subst h
  exact eY ⟨hd.q,hd.qe,hd.f,hd.fe⟩ rfl rfl rfl ⟨ok3,⟨rfl,rfl,rfl,rfl⟩⟩ (gB pz) (eI (fx _)) iS
 simp only[hf,decide_false,false_and,if_false,eM]at h
 split at h <;>
 ·injection h with h
  subst h
  exact eY ⟨hd.q,hd.qe,hd.f,hd.fe⟩ rfl rfl rfl ⟨.inl rfl,⟨rfl,rfl,rfl,rfl⟩⟩ (gB pz) (eI (fx _)) iS

theorem ld (c:Int) (w:World):Calls prog 105 #[.int .u8 c] w fun e w'=>e=.returned (.bool (iq c))∧w'=w:=by
 have h:c<65∨(65<=c∧c<=90)∨(90<c∧c<97)∨(97<=c∧c<=122)∨122<c:=by omega
 rcases h with h|⟨h1,h2⟩|⟨h1,h2⟩|⟨h1,h2⟩|h
 all_goals
  go_enter func105,ntmps105
  go_wp2_with fail
  all_goals
   go_ret
   refine⟨dK ?_,rfl⟩
   unfold iq
   first
    |exact(decide_eq_true (p:=(65<=c∧c<=90)∨(97<=c∧c<=122)) (by omega)).symm
    |exact(decide_eq_false (p:=(65<=c∧c<=90)∨(97<=c∧c<=122)) (by omega)).symm
    |(rw[decide_eq_false (p:=(65<=c∧c<=90)∨(97<=c∧c<=122)) (by omega)];simp;omega)
theorem Io (c:Int) (w:World):Calls prog 107 #[.int .u8 c] w fun e w'=>e=.returned (.bool (decide (c<=32)))∧w'=w:=by
 go_enter func107,ntmps107
 go_wp2_with fail
 go_ret
 exact⟨rfl,rfl⟩
def AY (s:Bytes):Bytes:=(s.reverse.dropWhile gT).reverse
theorem Fv (s:Bytes):trimF s=AY (s.dropWhile gT):=rfl
theorem QO (s:Bytes) (c:UInt8):AY (s++[c])=if gT c=true then AY s else s++[c]:=by
 unfold AY
 rw[AT]
 show(List.dropWhile gT (c::s.reverse)).reverse=_
 cases h:gT c with
 |true=>rw[bh h];rfl
 |false=>rw[bC (by simp[h])];simp
theorem a0x {s:Bytes} {k:Nat} (h:s.length=k+1):AY s=if b2 (s[k]'(by omega))<=32 then AY (s.take k)else s:=by
 have e:s=s.take k++[s[k]'(by omega)]:=by
  rw[<-List.take_succ_eq_append_getElem (by omega),aI (by omega)]
 have hr:=QO (s.take k) (s[k]'(by omega))
 rw[<-e]at hr
 rw[hr]
 unfold gT
 by_cases hc:b2 (s[k]'(by omega))<=32
 ·rw[if_pos hc,if_pos (by simpa using hc)]
 rw[if_neg hc,if_neg (by simpa using hc)]
theorem Qj {s:Bytes} (h:0<s.length):s.dropWhile gT=if b2 s[0]<=32 then(s.drop 1).dropWhile gT else s:=by
 cases s with
 |nil=>cases h
 |cons c t =>
  show List.dropWhile gT (c::t)=if b2 c<=32 then t.dropWhile gT else c::t
  by_cases hc:b2 c<=32
  ·rw[if_pos hc,bh (by unfold gT;simpa using hc)]
  rw[if_neg hc,bC (by unfold gT;simpa using hc)]
theorem gn (t:Bytes) (k n:Nat) (h:n=t.length):(bs t).extract k n=bs (t.drop k):=by
 rw[bM,h,aI (by rw[ai];omega)]
theorem ql (t:Bytes) (k:Nat):(bs t).extract 0 k=bs (t.take k):=by
 rw[bM,dx,nG]
theorem AO (l:Bytes) (w:World) (hl:l.length<=1024000000):Calls prog 106 #[.string (bs l),.func (Fn.func 107) #[] #[]] w fun e w'=>e=.returned (S (trimF l))∧w'=w:=by
 rw[Fv]
 obtain⟨L,hL⟩:=ap (l.dropWhile gT)
 have Xd:L.length<=l.length:=by
  obtain⟨a,ha⟩:=kZ gT l
  have:=congrArg List.length ha
  rw[af,<-hL]at this
  omega
 rw[<-hL]
 have HL:=h_ hL;clear hL
 have HT1:=h_ (fun c W=>Io c W)
 go_enter func106,ntmps106
 go_wp2_with fail
 go_loopw [0] (fun sv wr=>∃ t:Bytes,sv=.string (bs t)∧t.length<=1024000000∧Hid (L=t.dropWhile gT)∧w=wr) (fun sv _=>MB sv)
 case atStart=>exact⟨l,rfl,hl,HL.out,rfl⟩
 case round =>
  obtain⟨t,rfl,htl,ht,rfl⟩:=hrel
  obtain⟨s,hs⟩:=ap (bs t)
  have hsz:s.size=t.length:=by rw[hs,aB]
  have hse:s.toList=t:=by rw[hs,au]
  by_cases hn:t=[]
  ·have he:s.toList=[]:=by rw[hse,hn]
   have he1:s.toList.isEmpty=true:=by rw[he];rfl
   have hLn:L=[]:=by rw[ht.out,hn];rfl
   rw[<-hs]
   have HS:=h_ (show s=bs (AY L) by rw[hs,hn,hLn];rfl)
   clear ht hse hn hs hsz
   go_wp2_with fail
   obtain⟨w2,hw2⟩:=ap (w)
   have HW:=h_ hw2
   rw[<-hw2]
   clear hw2
   go_loopw [0] (fun sv wr=>sv=.string s∧w2=wr) (fun sv _=>MB sv)
   case atStart=>exact⟨rfl,rfl⟩
   case round =>
    obtain⟨rfl,rfl⟩:=hrel
    go_wp2_with fail
    go_ret
    exact⟨by rw[HS.out];rfl,HW.out⟩
  have he:¬ s.toList=[]:=by rw[hse];exact hn
  have he1:s.toList.isEmpty=false:=by simpa using he
  have hpos:0<t.length:=fG.mpr hn
  have Vg:0<s.size:=by omega
  have hx:((s[0]'Vg).toNat:Int)=b2 t[0]:=bV hs Vg hpos
  have hat:=Qj hpos
  have hex:s.extract 1 s.size=bs (t.drop 1):=by rw[hs];exact gn t 1 _ (aB t)
  obtain⟨N,hN⟩:=ap (s.size)
  have jF:s.size=N:=hN.symm
  rw[jF]at hex Vg
  have hNi:(1:Int)<=N:=by omega
  have h0i:(0:Int)<N:=by omega
  have hNt:N=t.length:=by omega
  rw[<-hs]
  obtain⟨X,hX⟩:=ap (b2 t[0])
  rw[<-hX]at hx hat
  by_cases hc:X<=32
  ·rw[if_pos hc]at hat
   have hnx:L=(t.drop 1).dropWhile gT:=by rw[ht.out,hat]
   have hrl:(t.drop 1).length+1=N∧N<=1024000000:=by rw[ai];omega
   generalize t.drop 1=r at hnx hrl hex
   have HNX:=h_ hnx
   have Bg:=h_ hrl
   clear hnx hrl
   clear ht hat hX hse hn hs hsz hN hpos hNt htl
   go_wp2_with (first|(go_at_call 107;refine(HT1.out _ _).mono ?_;rintro e w3 ⟨rfl,hw3⟩;subst hw3)|fail)
   go_roundw
   case rel=>exact⟨r,rfl,by have:=Bg.out;omega,HNX.out,by first|rfl|trivial⟩
   case measure =>
    have:=Bg.out
    show(bs r).size<s.size
    rw[aB,jF]
    omega
  rw[if_neg hc]at hat
  have hLt:L=t:=ht.out.trans hat
  have HRT:=h_ (show AY L=AY t by rw[hLt])
  have Jn:=h_ hs
  have HT:=h_ htl
  clear ht hat hX hse hn hsz hN hpos hNt htl hex hs hLt HL
  go_wp2_with (first|(go_at_call 107;refine(HT1.out _ _).mono ?_;rintro e w3 ⟨rfl,hw3⟩;subst hw3)|fail)
  obtain⟨w2,hw2⟩:=ap (w3)
  have HW:=h_ hw2
  rw[<-hw2]
  clear hw2
  go_loopw [0] (fun sv wr=>∃ t:Bytes,sv=.string (bs t)∧t.length<=1024000000∧Hid (AY L=AY t)∧w2=wr) (fun sv _=>MB sv)
  case atStart=>exact⟨t,by rw[Jn.out],HT.out,HRT.out,rfl⟩
  case round =>
   clear HT HRT Jn hx jF hNi h0i Vg he he1 hc
   obtain⟨t,rfl,htl,ht,rfl⟩:=hrel
   obtain⟨s,hs⟩:=ap (bs t)
   have hsz:s.size=t.length:=by rw[hs,aB]
   have hse:s.toList=t:=by rw[hs,au]
   by_cases hn:t=[]
   ·have he:s.toList=[]:=by rw[hse,hn]
    have he1:s.toList.isEmpty=true:=by rw[he];rfl
    rw[<-hs]
    have HS:=h_ (show s=bs (AY L) by rw[hs,ht.out,hn];rfl)
    clear ht hse hn hs hsz
    go_wp2_with fail
    go_ret
    exact⟨by rw[HS.out];rfl,HW.out⟩
   have he:¬ s.toList=[]:=by rw[hse];exact hn
   have he1:s.toList.isEmpty=false:=by simpa using he
   have hpos:0<t.length:=fG.mpr hn
   obtain⟨M,hM⟩:∃ M,t.length=M+1:=⟨t.length-1,by omega⟩
   have hMs:M<s.size:=by omega
   have hx:((s[M]'hMs).toNat:Int)=b2 (t[M]'(by omega)):=bV hs hMs (by omega)
   have hat:=a0x hM
   have hex:s.extract 0 M=bs (t.take M):=by rw[hs];exact ql t M
   obtain⟨N,hN⟩:=ap (s.size)
   have jF:s.size=N:=hN.symm
   have hNM:N=M+1:=by omega
   have hMN:M<N:=by omega
   have hwr:IntKind.i64.wrap ((N:Int)-1)=(M:Int):=by rw[show(N:Int)-1=(M:Int) by omega];exact IntWalk.i64_in _ (by omega)
   have hMi:(M:Int)<N:=by omega
   have hMl:(M:Int)<=N:=by omega
   rw[<-hs]
   obtain⟨X,hX⟩:=ap (b2 (t[M]'(by omega)))
   rw[<-hX]at hx hat
   by_cases hc:X<=32
   ·rw[if_pos hc]at hat
    have hnx:AY L=AY (t.take M):=by rw[ht.out,hat]
    have hrl:(t.take M).length=M∧M<N∧N<=1024000001:=by rw[aA];omega
    generalize t.take M=r at hnx hrl hex
    have HNX:=h_ hnx
    have Bg:=h_ hrl
    clear hnx hrl
    clear ht hat hX hse hn hs hsz hN hpos htl hNM hM
    go_wp2_with (first|(go_at_call 107;refine(HT1.out _ _).mono ?_;rintro e w4 ⟨rfl,hw4⟩;subst hw4)|fail)
    go_roundw
    case rel=>exact⟨r,rfl,by have:=Bg.out;omega,HNX.out,by first|rfl|trivial⟩
    case measure =>
     have:=Bg.out
     show(bs r).size<s.size
     rw[aB,jF]
     omega
   rw[if_neg hc]at hat
   have HS:=h_ (show s=bs (AY L) by rw[hs,ht.out,hat])
   clear ht hat hX hse hn hs hsz hN hpos htl hNM hM hex
   go_wp2_with (first|(go_at_call 107;refine(HT1.out _ _).mono ?_;rintro e w4 ⟨rfl,hw4⟩;subst hw4)|fail)
   go_ret
   exact⟨by rw[HS.out];rfl,HW.out⟩

theorem NM (l:Bytes) (w:World) (hl:l.length<=1024000000):Calls prog 72 #[.string (bs l)] w fun e w'=>e=.returned (S (trimF l))∧w'=w:=by
 have HW:=h_ (fun W=>AO l W hl)
 obtain⟨s,hs⟩:=ap (bs l)
 obtain⟨t,ht⟩:=ap (bs (trimF l))
 have HW2:=h_ (show ∀W,Calls prog 106 #[.string s,.func (Fn.func 107) #[] #[]] W fun e w'=>e=.returned (.string t)∧w'=W from by rw[hs,ht];exact HW.out)
 rw[<-hs]
 have HT:=h_ ht
 clear hs ht HW
 go_enter func72,ntmps72
 go_wp2_with fail
 refine(HW2.out _).mono ?_
 rintro e w2 ⟨rfl,hw⟩
 subst hw
 go_wp2_with fail
 go_ret
 exact⟨by rw[HT.out];rfl,rfl⟩
theorem DP {l:Bytes} {k:Nat} (h:k<l.length):gC (l.take (k+1))=if b2 l[k]=9∨b2 l[k]=10∨b2 l[k]=13 then gC (l.take k)else gC (l.take k)++[l[k]]:=by
 rw[aH h]
 unfold gC
 rw[fV]
 have e9:(l[k]==9)=decide (b2 l[k]=9):=by
  rw[cg,beq_iff_eq,decide_eq_true_eq]
  exact⟨fun h=>by rw[h];decide,fun h=>dz (h.trans (by decide))⟩
 have e10:(l[k]==10)=decide (b2 l[k]=10):=by
  rw[cg,beq_iff_eq,decide_eq_true_eq]
  exact⟨fun h=>by rw[h];decide,fun h=>dz (h.trans (by decide))⟩
 have e13:(l[k]==13)=decide (b2 l[k]=13):=by
  rw[cg,beq_iff_eq,decide_eq_true_eq]
  exact⟨fun h=>by rw[h];decide,fun h=>dz (h.trans (by decide))⟩
 by_cases hc:b2 l[k]=9∨b2 l[k]=10∨b2 l[k]=13
 ·rw[if_pos hc,bm (by
   rw[e9,e10,e13]
   rcases hc with h|h|h <;>simp[h]),uL,aV]
 rw[if_neg hc,bn (by
  rw[e9,e10,e13]
  simp only[not_or]at hc
  simp[hc.1,hc.2.1,hc.2.2]),uL]
theorem wN (l:Bytes):(gC l).length<=l.length:=eQ _ _
theorem Ik (l:Bytes) (w:World) (hl:l.length<=1024000000):Calls prog 71 #[.string (bs l)] w fun e w'=>e=.returned (S (gC l))∧Below w.heap.size w w':=by
 obtain⟨i8,q9,vJ,jK,ky⟩:=info_parts ly
 obtain⟨s,hs⟩:=ap (bs l)
 have hsz:s.size=l.length:=by rw[hs,aB]
 have hby:∀ k (hk:k<s.size) (hk2:k<l.length),((s[k]'hk).toNat:Int)=b2 l[k]:=fun k hk hk2=>bV hs hk hk2
 rw[<-hs]
 clear hs
 obtain⟨N,hN⟩:=ap (s.size)
 have jF:s.size=N:=hN.symm
 have pg:N<=1024000000:=by omega
 have fF:=h_ hby;clear hby
 have e7:=h_ hsz;clear hsz hl hN
 go_enter func71,ntmps71
 go_wp2_with fail
 obtain⟨w1,hr,hown0,hgr⟩:=run_make_own (P:=prog) w w.heap.size 50 5 i8 (.int .u8 0) 1 underlying50 q9 vJ jK .i64 .i64 N (by rw[ky];omega) (aq pg (by decide)) (ae _)
 have hb1:Below w.heap.size w w1:=⟨hgr.os,hgr.tape,hgr.output,hgr.size,fun k hk=>hgr.block k hk (by simp)⟩
 have HO0:=h_ hown0;clear hown0
 have HB1:=h_ hb1;clear hb1 hgr
 rw[hr]
 clear hr
 go_wp2_with fail
 go_loopw [3,11] (fun ov iv wr=>∃ (k:Nat),k<=N∧iv=.int .i64 k∧Hid (wr.ownsRow w.heap.size 5 1 ov (gC (l.take k)).length (Lib.byteCells (gC (l.take k))))∧Hid (Below w.heap.size w wr)) (fun _ i _=>N-(intOf i).toNat)
 case atStart=>exact⟨0,by omega,by simp,HO0.out,HB1.out⟩
 case round =>
  obtain⟨k,hk,rfl,HO,HB⟩:=hrel
  by_cases hlt:k<N
  ·have lV:k<s.size:=by omega
   have hkl:k<l.length:=by have:=e7.out;omega
   have hx:=fF.out k lV hkl
   have htk:=DP hkl
   have htl:=wN (l.take k)
   rw[aA]at htl
   have hwz:w.heap.size<=wr.heap.size:=HB.out.size
   have hbc:=fun o:Bytes=>(fO o l[k]).symm
   obtain⟨X,hX⟩:∃ X:Int,X=b2 l[k]:=⟨_,rfl⟩
   rw[<-hX]at hx htk hbc
   clear hX
   obtain⟨o,ho⟩:=ap (gC (l.take k))
   rw[<-ho]at htk htl HO
   obtain⟨al,hal⟩:=ap (o.length)
   have hown:=HO.out
   rw[<-hal]at hown htl
   have uJ:=h_ hown
   clear hown HO ho
   by_cases hc:X=9∨X=10∨X=13
   ·rw[if_pos hc]at htk
    have RH:=h_ (show wr.ownsRow w.heap.size 5 1 _ (gC (l.take (k+1))).length (Lib.byteCells (gC (l.take (k+1)))) by rw[htk,<-hal];exact uJ.out)
    clear htk hal hbc htl uJ
    rcases hc with rfl|rfl|rfl
    all_goals
     go_wp2_with fail
     go_roundw
     case rel=>exact⟨k+1,by omega,by simp,RH.out,HB.out⟩
     case measure=>simp[intOf];omega
   rw[if_neg hc]at htk
   have Jq:=h_ htk
   have lI:=h_ hal
   have HBC:=h_ (hbc o)
   have e9:(X==9)=false:=by simpa using fun h=>hc (.inl h)
   have e10:(X==10)=false:=by simpa using fun h=>hc (.inr (.inl h))
   have e13:(X==13)=false:=by simpa using fun h=>hc (.inr (.inr h))
   clear htk hal hbc hc
   go_wp2_with (first|(at_builtin;(refine ez rfl (.tmp 18) (.tmp 20) _ rfl w.heap.size 5 i8 (.int .u8 0) 1 underlying50 q9 vJ jK ky (by decide) _ _ _ (Lib.byteCells o) rfl uJ.out (.int .u8 X) rfl rfl (by omega) (by decide) (by omega) ?_);intro v2 w2 hown2 hw2 hb2;have eO:=h_ hown2;clear hown2;have HB2:=h_ hb2;clear hb2)|fail)
   go_roundw
   case rel =>
    refine⟨k+1,by omega,by simp,?_,HB.out.trans HB2.out⟩
    have h:=eO.out
    rw[Jq.out,af,<-lI.out,<-HBC.out]
    exact h
   case measure=>simp[intOf];omega
  obtain rfl:k=N:=by omega
  have htk:l.take k=l:=aI (by have:=e7.out;omega)
  rw[htk]at HO
  have kc:=md (P:=prog) underlying50 underlying5 underlying9 HO.out
  obtain⟨t,ht⟩:=ap (bs (gC l))
  rw[<-ht]at kc
  have HT:=h_ ht
  clear HO htk ht
  go_wp2_with fail
  go_ret
  exact⟨by rw[HT.out];rfl,HB.out⟩
theorem qO (l:Bytes):(trimF l).length<=l.length:=by
 rw[Fv]
 obtain⟨a,ha⟩:=kZ gT l
 have h1:=congrArg List.length ha
 rw[af]at h1
 unfold AY
 rw[ns]
 obtain⟨b,hb⟩:=kZ gT (l.dropWhile gT).reverse
 have h2:=congrArg List.length hb
 rw[af,ns]at h2
 omega
theorem vp (l:Bytes) (w:World) (hl:l.length<=1024000000):Calls prog 34 #[.string (bs l)] w fun e w'=>e=.returned (S (ef l))∧Below w.heap.size w w':=by
 have h1:=fun W=>NM l W hl
 have h2:=fun W=>Ik (trimF l) W (by have:=qO l;omega)
 obtain⟨s,hs⟩:=ap (bs l)
 obtain⟨t,ht⟩:=ap (bs (trimF l))
 obtain⟨r,hr⟩:=ap (bs (ef l))
 have H1:=h_ (show ∀W,Calls prog 72 #[.string s] W fun e w'=>e=.returned (.string t)∧w'=W from by rw[hs,ht];exact h1)
 have H2:=h_ (show ∀W,Calls prog 71 #[.string t] W fun e w'=>e=.returned (.string r)∧Below W.heap.size W w' from by rw[ht,hr];exact h2)
 rw[<-hs]
 have HR:=h_ hr
 clear hs ht hr h1 h2
 go_enter func34,ntmps34
 go_wp2_with (first
  |(go_at_call 72;refine(H1.out _).mono ?_;rintro e w2 ⟨rfl,hw⟩;subst hw)
  |(go_at_call 71;refine(H2.out _).mono ?_;rintro e w3 ⟨rfl,hb⟩;have HB:=h_ hb;clear hb)
  |fail)
 go_ret
 exact⟨by rw[HR.out];rfl,HB.out⟩

def W4 (i:Bool) (c:UInt8):Bool:=if c=91 then true else if c=93 then false else i
def lM:Bool->Bytes->Option Nat
 |_,[]=>none
 |i,c::t=>if c=58∧i=false then some 0 else(lM (W4 i c) t).map (·+1)
theorem SI:∀ (i:Bool) (s:Bytes),Kx i s=(lM i s).map fun k=>(s.take k,s.drop (k+1))
 |_,[]=>rfl
 |i,c::t=>by
  rw[Kx,lM]
  split
  ·rfl
  rw[show(if c=91 then true else if c=93 then false else i)=W4 i c from rfl,SI (W4 i c) t,W0,W0]
  rfl
theorem Ex:∀ (i:Bool) (s:Bytes) (k:Nat),lM i s=some k->k<s.length
 |_,[],_,h=>by cases h
 |i,c::t,k,h=>by
  rw[lM]at h
  split at h
  ·injection h with h
   subst h
   simp
  cases hc:lM (W4 i c) t with
  |none=>rw[hc]at h;cases h
  |some m =>
   rw[hc]at h
   injection h with h
   have h1:m+1=k:=h
   have:=Ex _ t m hc
   rw[ag];omega
theorem Sn {c:UInt8}:b2 c=58 ↔ c=58:=⟨fun h=>dz (h.trans (by decide)),fun h=>by rw[h];decide⟩
theorem So {c:UInt8}:b2 c=91 ↔ c=91:=⟨fun h=>dz (h.trans (by decide)),fun h=>by rw[h];decide⟩
theorem Sp {c:UInt8}:b2 c=93 ↔ c=93:=⟨fun h=>dz (h.trans (by decide)),fun h=>by rw[h];decide⟩
theorem Pp (i:Bool) {l:Bytes} {k:Nat} (h:k<l.length):(lM i (l.drop k)).map (·+k)=if b2 l[k]=58∧i=false then some k else(lM (if b2 l[k]=91 then true else if b2 l[k]=93 then false else i) (l.drop (k+1))).map (·+(k+1)):=by
 have e1:W4 i l[k]=if b2 l[k]=91 then true else if b2 l[k]=93 then false else i:=by
  unfold W4
  by_cases h1:l[k]=91
  ·rw[if_pos h1,if_pos (So.mpr h1)]
  rw[if_neg h1,if_neg (fun h=>h1 (So.mp h))]
  by_cases h2:l[k]=93
  ·rw[if_pos h2,if_pos (Sp.mpr h2)]
  rw[if_neg h2,if_neg (fun h=>h2 (Sp.mp h))]
 rw[ay h,lM,<-e1]
 by_cases hc:l[k]=58∧i=false
 ·rw[if_pos hc,if_pos ⟨Sn.mpr hc.1,hc.2⟩]
  simp
 rw[if_neg hc,if_neg (fun h=>hc ⟨Sn.mp h.1,h.2⟩),W0]
 congr 1
 funext m
 simp only[Function.comp]
 omega
def Wb (o:Option Nat):Int:=match o with|some k=>k|none=>-1
theorem Gk (l:Bytes) (w:World) (hl:l.length<=1024000000):Calls prog 167 #[.string (bs l)] w fun e w'=>e=.returned (.int .i64 (Wb (lM false l)))∧w'=w:=by
 obtain⟨R,hR⟩:=ap (lM false l)
 rw[<-hR]
 have HR:=h_ hR;clear hR
 obtain⟨s,hs⟩:=ap (bs l)
 have hsz:s.size=l.length:=by rw[hs,aB]
 have hby:∀ k (hk:k<s.size) (hk2:k<l.length),((s[k]'hk).toNat:Int)=b2 l[k]:=fun k hk hk2=>bV hs hk hk2
 rw[<-hs]
 clear hs
 obtain⟨N,hN⟩:=ap (s.size)
 have jF:s.size=N:=hN.symm
 have pg:N<=1024000000:=by omega
 have fF:=h_ hby;clear hby
 have e7:=h_ hsz;clear hsz hl hN
 go_enter func167,ntmps167
 go_wp2_with fail
 go_loopw [3,4] (fun bv iv wr=>∃ (k:Nat) (i:Bool),k<=N∧iv=.int .i64 k∧bv=.bool i∧Hid ((lM i (l.drop k)).map (·+k)=R)∧w=wr) (fun _ i _=>N-(intOf i).toNat)
 case atStart=>exact⟨0,false,by omega,by simp,rfl,(by rw[HR.out];show(lM false (List.drop 0 l)).map (·+0)=_;simp),rfl⟩
 case round =>
  obtain⟨k,i,hk,rfl,rfl,hd,rfl⟩:=hrel
  by_cases hlt:k<N
  ·have lV:k<s.size:=by omega
   have hkl:k<l.length:=by have:=e7.out;omega
   have hx:=fF.out k lV hkl
   have hst:=Pp i hkl
   rw[hd.out]at hst
   clear hd
   generalize b2 l[k]=X at hx hst
   have hX:X=58∨X=91∨X=93∨(X≠58∧X≠91∧X≠93):=by omega
   rcases hX with rfl|rfl|rfl|⟨h1,h2,h3⟩
   ·cases i with
    |false =>
     rw[if_pos ⟨rfl,rfl⟩]at hst
     have HST:=h_ hst;clear hst
     go_wp2_with fail
     go_ret
     exact⟨by rw[HST.out];rfl,rfl⟩
    |true =>
     rw[if_neg (by simp),if_neg (by decide),if_neg (by decide)]at hst
     have HST:=h_ hst;clear hst
     go_wp2_with fail
     go_roundw
     case rel=>exact⟨k+1,true,by omega,by simp,rfl,HST.out.symm,by trivial⟩
     case measure=>simp[intOf];omega
   ·rw[if_neg (by simp),if_pos rfl]at hst
    have HST:=h_ hst;clear hst
    go_wp2_with fail
    go_roundw
    case rel=>exact⟨k+1,true,by omega,by simp,rfl,HST.out.symm,by trivial⟩
    case measure=>simp[intOf];omega
   ·rw[if_neg (by simp),if_neg (by decide),if_pos rfl]at hst
    have HST:=h_ hst;clear hst
    go_wp2_with fail
    go_roundw
    case rel=>exact⟨k+1,false,by omega,by simp,rfl,HST.out.symm,by trivial⟩
    case measure=>simp[intOf];omega
   rw[if_neg (fun h=>h1 h.1),if_neg h2,if_neg h3]at hst
   have HST:=h_ hst;clear hst
   have e1:(X==58)=false:=by simpa using h1
   have e2:(X==91)=false:=by simpa using h2
   have e3:(X==93)=false:=by simpa using h3
   go_wp2_with fail
   go_roundw
   case rel=>exact⟨k+1,i,by omega,by simp,rfl,HST.out.symm,by trivial⟩
   case measure=>simp[intOf];omega
  obtain rfl:k=N:=by omega
  have hdr:l.drop k=[]:=bf (by have:=e7.out;omega)
  have hd1:=hd.out
  rw[hdr]at hd1
  have HST:=h_ (show none=R from hd1);clear hd1 hd
  go_wp2_with fail
  go_ret
  exact⟨by rw[<-HST.out];rfl,rfl⟩
theorem Pd {sp:Bool} {l:Bytes}:∀ {k:Nat},k<=l.length->(∀j (hj:j<l.length),j<k->kE sp l[j]=false)->(∀hk:k<l.length,kE sp l[k]=true)->dA sp l=(l.take k,l.drop k):=by
 intro k hk h1 h2
 have e:l=l.take k++l.drop k:=(cT k l).symm
 have ht:∀ y∈l.take k,(fun c=>!kE sp c) y=true:=by
  intro y hy
  obtain⟨j,hj,rfl⟩:=dQ hy
  rw[aA]at hj
  rw[IM]
  simp[h1 j (by omega) (by omega)]
 have hd:(l.drop k).takeWhile (fun c=>!kE sp c)=[]∧(l.drop k).dropWhile (fun c=>!kE sp c)=l.drop k:=by
  by_cases hlt:k<l.length
  ·rw[ay hlt]
   have:=h2 hlt
   exact⟨bd (by simp[this]),bC (by simp[this])⟩
  rw[bf (by omega)]
  exact⟨rfl,rfl⟩
 unfold dA
 have e1:l.takeWhile (fun c=>!kE sp c)=l.take k++(l.drop k).takeWhile (fun c=>!kE sp c):=by
  conv=>lhs;rw[e]
  exact List.takeWhile_append_of_pos ht
 have e2:l.dropWhile (fun c=>!kE sp c)=(l.drop k).dropWhile (fun c=>!kE sp c):=by
  conv=>lhs;rw[e]
  exact List.dropWhile_append_of_pos ht
 rw[e1,e2,hd.1,hd.2,aV]
theorem slP_b {sp:Bool} {c:UInt8}:kE sp c=(decide (b2 c=47)||(sp&&decide (b2 c=92))):=by
 unfold kE
 have h1:(c==47)=decide (b2 c=47):=by
  rw[cg,beq_iff_eq,decide_eq_true_eq]
  exact⟨fun h=>by rw[h];decide,fun h=>dz (h.trans (by decide))⟩
 have h2:(c==92)=decide (b2 c=92):=by
  rw[cg,beq_iff_eq,decide_eq_true_eq]
  exact⟨fun h=>by rw[h];decide,fun h=>dz (h.trans (by decide))⟩
 rw[h1,h2]
theorem yX (l:Bytes) (sp:Bool) (w:World) (hl:l.length<=1024000000):Calls prog 133 #[.string (bs l),.bool sp] w fun e w'=>e=.returned (.tuple #[S (dA sp l).1,S (dA sp l).2])∧Below w.heap.size w w':=by
 obtain⟨R,hR⟩:=ap (dA sp l)
 have hat:∀ k,k<=l.length->(∀j (hj:j<l.length),j<k->kE sp l[j]=false)->(∀hk:k<l.length,kE sp l[k]=true)->R=(l.take k,l.drop k):=fun k h1 h2 h3=>hR.trans (Pd h1 h2 h3)
 rw[<-hR]
 clear hR
 have HAT:=h_ hat;clear hat
 obtain⟨s,hs⟩:=ap (bs l)
 have hsz:s.size=l.length:=by rw[hs,aB]
 have hby:∀ k (hk:k<s.size) (hk2:k<l.length),((s[k]'hk).toNat:Int)=b2 l[k]:=fun k hk hk2=>bV hs hk hk2
 have hx1:∀ k,s.extract 0 k=bs (l.take k):=fun k=>by rw[hs,bM,dx,nG]
 have hx2:∀ k,s.extract k s.size=bs (l.drop k):=fun k=>by rw[hs,bM,aB,aI (by rw[ai];omega)]
 rw[<-hs]
 have hss:bs l=s:=hs.symm
 have Jn:=h_ hss
 clear hs hss
 obtain⟨N,hN⟩:=ap (s.size)
 have jF:s.size=N:=hN.symm
 rw[jF]at hx2
 have pg:N<=1024000000:=by omega
 have fF:=h_ hby;clear hby
 have e7:=h_ hsz;clear hsz hl hN
 have Ua:=h_ hx1;clear hx1
 have Ub:=h_ hx2;clear hx2
 go_enter func133,ntmps133
 go_wp2_with fail
 go_loopw [6] (fun iv wr=>∃ k:Nat,k<=N∧iv=.int .i64 k∧Hid (∀j (hj:j<l.length),j<k->kE sp l[j]=false)∧w=wr) (fun i _=>N-(intOf i).toNat)
 case atStart=>exact⟨0,by omega,by simp,(fun j hj h=>absurd h (bE j)),rfl⟩
 case round =>
  obtain⟨k,hk,rfl,hall,rfl⟩:=hrel
  by_cases hlt:k<N
  ·have lV:k<s.size:=by omega
   have hkl:k<l.length:=by have:=e7.out;omega
   have hx:=fF.out k lV hkl
   have hnext:kE sp l[k]=false->∀ j (hj:j<l.length),j<k+1->kE sp l[j]=false:=fun h j hj h1=>by
    rcases cU j k with h2|h2
    ·exact hall.out j hj h2
    obtain rfl:j=k:=by omega
    exact h
   have hhit:kE sp l[k]=true->R=(l.take k,l.drop k):=fun h=>HAT.out k (by omega) hall.out (fun _=>h)
   rw[slP_b]at hnext hhit
   have HN:=h_ hnext;clear hnext
   have HH:=h_ hhit;clear hhit hall
   have e1:=Ua.out k
   have e2:=Ub.out k
   obtain⟨X,hX⟩:=ap (b2 l[k])
   rw[<-hX]at hx HN HH
   clear hX
   have hki:(k:Int)<=N:=by omega
   by_cases h47:X=47
   ·subst h47
    have HR:=h_ (HH.out (by simp));clear HH HN
    go_wp2_with fail
    go_quiet (fail)
    go_wp2_with fail
    go_ret2
    exact⟨by rw[HR.out];rfl,ma (aG _)⟩
   have q47:(X==47)=false:=by simpa using h47
   cases sp with
   |false =>
    have HS:=h_ (HN.out (by simp[h47]));clear HH HN
    go_wp2_with fail
    go_roundw
    case rel=>exact⟨k+1,by omega,by simp,HS.out,by trivial⟩
    case measure=>simp[intOf];omega
   |true =>
    by_cases Ly:X=92
    ·subst Ly
     have HR:=h_ (HH.out (by simp));clear HH HN
     go_wp2_with fail
     go_quiet (fail)
     go_wp2_with fail
     go_ret2
     exact⟨by rw[HR.out];rfl,ma (aG _)⟩
    have q92:(X==92)=false:=by simpa using Ly
    have HS:=h_ (HN.out (by simp[h47,Ly]));clear HH HN
    go_wp2_with fail
    go_roundw
    case rel=>exact⟨k+1,by omega,by simp,HS.out,by trivial⟩
    case measure=>simp[intOf];omega
  obtain rfl:k=N:=by omega
  have hR:=HAT.out l.length (ae _) (fun j hj h=>hall.out j hj (by have:=e7.out;omega)) (fun h=>absurd h (Nat.lt_irrefl _))
  rw[dY,dh]at hR
  have HR:=h_ hR;clear hR hall
  have he:(⟨#[]⟩:ByteArray)=bs []:=rfl
  go_wp2_with fail
  go_ret2
  exact⟨by rw[HR.out,<-Jn.out];rfl,aG _⟩

theorem NW:∀ (l:Bytes) (n:Int),(∃y∈l,eF (b2 y) 10<0)->jN n l=none
 | [],_,h=>by obtain⟨_,h,_⟩:=h;cases h
 |c::t,n,h=>by
  rw[jN]
  by_cases hc:eF (b2 c) 10<0
  ·rw[if_pos hc]
  rw[if_neg hc]
  refine NW t _ ?_
  obtain⟨y,hy,hd⟩:=h
  rcases aN.mp hy with rfl|hy
  ·exact absurd hd hc
  exact⟨y,hy,hd⟩
theorem Tw:∀ (l:Bytes) (n:Int),(∀y∈l,¬eF (b2 y) 10<0)->∃ v,jN n l=some v
 | [],n,_=>⟨n,rfl⟩
 |c::t,n,h=>by
  rw[jN,if_neg (h c (by simp))]
  exact Tw t _ (fun y hy=>h y (by simp[hy]))
abbrev apE (o:Option (Int×Bool)):Ending:=.returned (.tuple #[.int .i64 ((o.map (·.1)).getD 0),.bool ((o.map (·.2)).getD false),.bool o.isSome])
theorem F0 (aC l:Bytes) (w:World) (hl:l.length<=1024000000):Calls prog 168 #[.string (bs aC),.string (bs l)] w fun e w'=>e=apE (Pe aC l)∧w'=w:=by
 have hrp:=fun W=>H9 aC W
 have j8:=fun W=>jd l W hl
 obtain⟨R,hR⟩:=ap (Pe aC l)
 rw[<-hR]
 unfold Pe at hR
 generalize Dh aC=O at hrp hR
 generalize bs aC=ss at *
 have yS:=h_ hrp;clear hrp
 have hbad:∀ k (hk:k<l.length),eF (b2 l[k]) 10<0->jN 0 l=none:=fun k hk h=>NW l 0 ⟨_,bJ hk,h⟩
 have hgood:(∀k (hk:k<l.length),¬eF (b2 l[k]) 10<0)->∃ v,jN 0 l=some v:=fun h=>Tw l 0 (fun y hy=>by
  obtain⟨k,hk,rfl⟩:=dQ hy
  exact h k hk)
 obtain⟨s,hs⟩:=ap (bs l)
 have hsz:s.size=l.length:=by rw[hs,aB]
 have hby:∀ k (hk:k<s.size) (hk2:k<l.length),((s[k]'hk).toNat:Int)=b2 l[k]:=fun k hk hk2=>bV hs hk hk2
 have hemp:(s.toList=[]) ↔ l=[]:=by rw[hs,au]
 rw[<-hs]at j8 ⊢
 clear hs
 obtain⟨N,hN⟩:=ap (s.size)
 have jF:s.size=N:=hN.symm
 have pg:N<=1024000000:=by omega
 have fF:=h_ hby;clear hby
 have e7:=h_ hsz;clear hsz hl hN
 by_cases hnil:l=[]
 ·rw[if_pos hnil]at hR
  have he:=hemp.mpr hnil
  have he1:s.toList.isEmpty=true:=by simpa using he
  have HR:=h_ hR
  clear hemp hR hbad hgood j8
  go_enter func168,ntmps168
  go_wp2_with fail
  go_ret3
  exact⟨by rw[HR.out];rfl,rfl⟩
 rw[if_neg hnil]at hR
 have he:¬ s.toList=[]:=fun h=>hnil (hemp.mp h)
 have he1:s.toList.isEmpty=false:=by simpa using he
 have hwf:cR l=jN 0 l:=by unfold cR;rw[if_neg hnil]
 rw[hwf]at hR j8
 clear hemp hwf hnil
 have HBAD:=h_ hbad;clear hbad
 have XC:=h_ hgood;clear hgood
 have nT:=h_ j8;clear j8
 have HR:=h_ hR;clear hR
 go_enter func168,ntmps168
 go_wp2_with fail
 go_loopw [7] (fun iv wr=>∃ k:Nat,k<=N∧iv=.int .i64 k∧Hid (∀j (hj:j<l.length),j<k->0<=eF (b2 l[j]) 10)∧w=wr) (fun i _=>N-(intOf i).toNat)
 case atStart=>exact⟨0,by omega,by simp,(fun j hj h=>absurd h (bE j)),rfl⟩
 case round =>
  obtain⟨k,hk,rfl,hall,rfl⟩:=hrel
  by_cases hlt:k<N
  ·have lV:k<s.size:=by omega
   have hkl:k<l.length:=by have:=e7.out;omega
   have hx:=fF.out k lV hkl
   have hr:=iD l[k]
   have hda:=fun W=>cY (b2 l[k]) 10 W hr (by omega)
   have hbad:=HBAD.out k hkl
   have hnext:0<=eF (b2 l[k]) 10->∀ j (hj:j<l.length),j<k+1->0<=eF (b2 l[j]) 10:=fun h j hj h1=>by
    rcases cU j k with h2|h2
    ·exact hall.out j hj h2
    obtain rfl:j=k:=by omega
    exact h
   have HN:=h_ hnext;clear hnext
   obtain⟨D,hD⟩:=ap (eF (b2 l[k]) 10)
   rw[<-hD]at hda hbad HN
   clear hD
   generalize b2 l[k]=X at hx hr hda
   have r8:=h_ hda;clear hda hall
   by_cases hD0:D<0
   ·have hb:=hbad hD0
    have hR:=HR.out
    rw[hb]at hR
    have HR2:=h_ (show R=none from hR);clear hR hb hbad HN
    go_wp2_with (first|(go_at_call 62;refine(r8.out _).mono ?_;rintro e w2 ⟨rfl,rfl⟩)|fail)
    go_ret3
    exact⟨by rw[HR2.out];rfl,rfl⟩
   have HS:=h_ (HN.out (by omega));clear hbad HN
   go_wp2_with (first|(go_at_call 62;refine(r8.out _).mono ?_;rintro e w2 ⟨rfl,rfl⟩)|fail)
   go_roundw
   case rel=>exact⟨k+1,by omega,by simp,HS.out,by trivial⟩
   case measure=>simp[intOf];omega
  obtain rfl:k=N:=by omega
  obtain⟨v,hv⟩:=XC.out (fun j hj=>by have:=hall.out j hj (by have:=e7.out;omega);omega)
  have hR:=HR.out
  have j8:=nT.out
  rw[hv]at hR j8
  replace j8:∀ W,Calls prog 111 #[.string s] W fun e w'=>e=.returned (.tuple #[.int .i64 v,.bool true])∧w'=W:=j8
  have HW:=h_ j8;clear j8 hall hv nT
  dsimp only at hR
  by_cases hbig:65535<v
  ·rw[if_pos hbig]at hR
   have HR2:=h_ hR;clear hR
   go_wp2_with (first|(go_at_call 111;refine(HW.out _).mono ?_;rintro e w2 ⟨rfl,hw2⟩;subst hw2)|fail)
   go_ret3
   exact⟨by rw[HR2.out];rfl,rfl⟩
  rw[if_neg hbig]at hR
  cases O with
  |none =>
   rw[if_neg (by simp)]at hR
   have HR2:=h_ hR;clear hR
   have OU:=h_ (show ∀W,Calls prog 191 #[.string ss] W fun e w'=>e=.returned (.tuple #[.int .i64 0,.bool false])∧w'=W from yS.out)
   go_wp2_with (first
    |(go_at_call 111;refine(HW.out _).mono ?_;rintro e w2 ⟨rfl,hw2⟩;subst hw2)
    |(go_at_call 191;refine(OU.out _).mono ?_;rintro e w2 ⟨rfl,hw2⟩;subst hw2)
    |fail)
   go_ret3
   exact⟨by rw[HR2.out];rfl,rfl⟩
  |some o =>
   have OU:=h_ (show ∀W,Calls prog 191 #[.string ss] W fun e w'=>e=.returned (.tuple #[.int .i64 o,.bool true])∧w'=W from yS.out)
   by_cases ho:o=v
   ·rw[if_pos (by rw[ho])]at hR
    have HR2:=h_ hR;clear hR
    have hov:(o==v)=true:=by simpa using ho
    go_wp2_with (first
     |(go_at_call 111;refine(HW.out _).mono ?_;rintro e w2 ⟨rfl,hw2⟩;subst hw2)
     |(go_at_call 191;refine(OU.out _).mono ?_;rintro e w2 ⟨rfl,hw2⟩;subst hw2)
     |fail)
    go_ret3
    exact⟨by rw[HR2.out];rfl,rfl⟩
   rw[if_neg (fun h=>ho (bw h))]at hR
   have HR2:=h_ hR;clear hR
   have hov:(o==v)=false:=by simpa using ho
   go_wp2_with (first
    |(go_at_call 111;refine(HW.out _).mono ?_;rintro e w2 ⟨rfl,hw2⟩;subst hw2)
    |(go_at_call 191;refine(OU.out _).mono ?_;rintro e w2 ⟨rfl,hw2⟩;subst hw2)
    |fail)
   go_ret3
   exact⟨by rw[HR2.out];rfl,rfl⟩

theorem z7 (c:UInt8) (s:Bytes):Lib.cut s [c]=bR c s:=by
 by_cases h:c∈s
 ·obtain⟨p,r,e,hp,hc⟩:=my h
  rw[hc,e,BP p r hp]
 rw[pw h,vr h]
theorem KA:∀ s:Bytes,oV s=((bR 58 s).1,(bR 58 s).2.1)
 | []=>rfl
 |x::t=>by
  rw[oV,bR,KA t]
  split <;>rfl
theorem Eh (s:Bytes):(Lib.lastIndexByte (bs s) 64=-1∧xl s=none)∨∃ i:Nat,i<s.length∧Lib.lastIndexByte (bs s) 64=i∧xl s=some (s.take i,s.drop (i+1)):=by
 have e64:∀ j (hj:j<s.length),((((bs s).data[j]!).toNat:Int)=64) ↔ s[j]=64:=by
  intro j hj
  have e:(bs s).data[j]! = s[j]:=by
   show s.toArray[j]! = _
   simp[hj]
  rw[e]
  exact⟨fun h=>dz (by show b2 s[j]=b2 64;exact h.trans (by decide)),fun h=>by rw[h];decide⟩
 rcases Lib.lastIndexByte_spec (bs s) 64 with⟨h1,h2⟩|⟨i,h1,h2,h3,h4⟩
 ·refine .inl ⟨h1,xm fun hm=>?_⟩
  obtain⟨j,hj,he⟩:=dQ hm
  exact h2 j (by rw[aB];exact hj) ((e64 j hj).mpr he)
 rw[aB]at h1
 refine .inr ⟨i,h1,h2,?_⟩
 have hs:s=s.take i++64::s.drop (i+1):=by
  conv=>lhs;rw[<-List.take_append_drop i s,ay h1,(e64 i h1).mp h3]
 have hn:(64:UInt8)∉s.drop (i+1):=fun hm=>by
  obtain⟨j,hj,he⟩:=dQ hm
  rw[ai]at hj
  rw[IL]at he
  exact h4 (i+1+j) (by omega) (by rw[aB];omega) ((e64 (i+1+j) (by omega)).mpr he)
 conv=>lhs;rw[hs]
 exact J4 _ hn
def jj (a:oL):List Value:=[S a.user,S a.pass]++aW a.host++[.bool a.aZ,.int .i64 a.port]
abbrev bD (a:oL):Array Value:=(jj a).toArray
abbrev Yo (o:Option oL):Ending:=.returned (.tuple #[.agg (bD (o.getD A0)),.bool o.isSome])
theorem allA (w:World):(Instr.alloc 151 true (Value.tuple #[])).run prog w=.ok (.pointer (some ⟨w.heap.size,0,none⟩)) (w.alloc (.cells (bD A0) 151)):=by kernel_rfl
theorem Eu:∀ w,(Instr.build 151 #[]).run prog w=.ok (.agg (bD A0)) w:=fun w=>by kernel_rfl
theorem oR:(prog.info? 151).map (·.size)=some 15:=by kernel_rfl
theorem bF:(prog.info? 9).map (·.size)=some 1∧(prog.info? 3).map (·.size)=some 1∧(prog.info? 4).map (·.size)=some 1:=by refine⟨?_,?_,?_⟩ <;>kernel_rfl
theorem oS {a:oL} (h:a.host.six.length=8):(jj a).length=15:=by simp[jj,aW,h]
theorem eR {a:oL} (h:a.host.six.length=8):(bD a).size=15:=by rw[km,oS h]
theorem iN {h:gE}:∀ v∈aW h,v.oneCell'=true:=by
 intro v hv
 simp only[aW,aN,kj]at hv
 rcases hv with e|e|e|⟨_,_,e⟩ <;>first|(rw[e];rfl)|(rw[<-e];rfl)
theorem Ek {a:oL}:∀ v∈jj a,v.oneCell'=true:=by
 intro v hv
 simp only[jj,bl,aN,ci,or_false]at hv
 rcases hv with((e|e)|e)|e|e
 ·rw[e];rfl
 ·rw[e];rfl
 ·exact iN v e
 ·rw[e];rfl
 rw[e];rfl
theorem Ka (a:oL) (x:Bytes):(bD a).setIfInBounds 0 (S x)=bD {a with user:=x}:=rfl
theorem J6 (a:oL) (x:Bytes):(bD a).setIfInBounds 1 (S x)=bD {a with pass:=x}:=rfl
theorem pD:∀ (new pre old post:List Value),old.length=new.length->rF (pre++old++post).toArray pre.length new=(pre++new++post).toArray
 | [],pre,old,post,h=>by
  obtain rfl:old=[]:=am h
  rfl
 |v::r,pre,old,post,h=>by
  cases old with
  |nil=>cases h
  |cons x t =>
   rw[rF]
   have e:(pre++x::t++post).toArray.setIfInBounds pre.length v=((pre++[v])++t++post).toArray:=by simp
   rw[e]
   have:=pD r (pre++[v]) t post (by simpa using h)
   rw[af]at this
   simp only[ag,aQ,bk]at this
   rw[this]
   simp
theorem ll (old new:List Value) (h:old.length=new.length):rF old.toArray 0 new=new.toArray:=by
 have:=pD new [] old [] h
 simpa using this
theorem J5 (a:oL) (h:gE) (h8:h.six.length=8) (g8:a.host.six.length=8):rF (bD a) 2 (aW h)=bD {a with host:=h} :=
 pD (aW h) [S a.user,S a.pass] (aW a.host) [.bool a.aZ,.int .i64 a.port] (by simp[aW,h8,g8])
theorem yZ (a:oL) (n:Int) (a8:a.host.six.length=8):(bD a).setIfInBounds 14 (.int .i64 n)=bD {a with port:=n}:=by
 obtain⟨u,p,⟨k,nm,f,six⟩,hp,po⟩:=a
 simp only at a8
 obtain⟨b1,b2,b3,b4,b5,b6,b7,b8,rfl⟩:=eight a8
 rfl
theorem Ej (a:oL) (b:Bool) (a8:a.host.six.length=8):(bD a).setIfInBounds 13 (.bool b)=bD {a with aZ:=b}:=by
 obtain⟨u,p,⟨k,nm,f,six⟩,hp,po⟩:=a
 simp only at a8
 obtain⟨b1,b2,b3,b4,b5,b6,b7,b8,rfl⟩:=eight a8
 rfl
end Go.Proofs.YtmndlfglgcioeaaGreatDoor
