/- Joined texts. -/
import Derived.Test.YtmndlfglgcioeaaGreatDoorEGNumT
import Derived.Test.YtmndlfglgcioeaaGreatDoorEGAthH
set_option maxHeartbeats 40000000
namespace Go.Proofs.YtmndlfglgcioeaaGreatDoor
open Go.RowKit
set_option maxRecDepth 10000
structure Fit (l:Bytes):Prop where
 b:∀ x∈l,jk x=false
 h:∃ x r,l=x::r∧x≠44
 e:∃ q y,l=q++[y]∧y≠44
theorem Pp(x:UInt8):b2 x=44 ↔ x=44:=by
 constructor
 ·intro h
  have:x.toNat=44:=by unfold b2 at h;omega
  exact fH.mp this
 rintro rfl;rfl
theorem Qy(l:Bytes):lR l=true ↔ Fit l:=by
 unfold lR;cases l with
 |nil=>exact⟨fun h=>by simp at h,fun h=>by obtain⟨x,r,e,_⟩:=h.h;cases e⟩
 |cons x r =>
  have hq:∃ q y,x::r=q++[y]:=⟨(x::r).dropLast,(x::r).getLast (by simp),(fG (by simp)).symm⟩;obtain⟨q,y,hqy⟩:=hq;have hs:Lib.hasSuffix (x::r) [44]=decide (b2 y=44):=by rw[hqy];exact a5W y q
  rw[hs,a5J];constructor
  ·intro h
   simp only[bD,jI,decide_eq_false_iff_not,bo,Pp]at h;exact⟨fun z hz=>h.1.1.1 z hz,⟨x,r,rfl,h.1.2⟩,⟨q,y,hqy,h.2⟩⟩
  intro h;obtain⟨x',r',e,hx⟩:=h.h;obtain⟨q',y',e',hy⟩:=h.e;cases e;rw[hqy]at e';obtain⟨_,e2⟩:=List.append_inj' e' rfl;cases e2;simp only[bD,jI,decide_eq_false_iff_not,bo,Pp];exact⟨⟨⟨fun z hz=>h.b z hz,rfl⟩,hx⟩,hy⟩
theorem Af:∀ {w:Bytes} (t:Bytes),(∀x∈w,x≠40∧eW x=false)->fR false (w++t)=w.length+fR false t
 | [],t,_=>by rw[bJ,aN,bC]
 |x::w,t,h=>by
  rw[bd,fR,if_neg (h x (by simp)).1,if_neg (by rw[(h x (by simp)).2];simp),Af (w:=w) t fun y hy=>h y (by simp[hy]),ag];omega

def n7:Bytes:=[239,191,189]
def dS(raw:Bytes):Bytes:=raw.flatMap fun x=>if x=0 then n7 else [x]
def oj(raw:Bytes):Bytes:=jl (kJ (dS raw))
def dC(b:Url)(s:Bytes)(ws:List Bytes):eG:=match lX b s with
 |none=>⟨false,U0,ws⟩
 |some u=>⟨true,u,ws⟩
structure Rd where
 items:List eG
 delay:Bytes
def fK(kind:Int)(b:Url)(s:Bytes):Rd :=
 if kind=1 then⟨[dC b s []],[]⟩
 else if kind=2 then⟨(iG s).map fun c=>dC b c.url c.words,[]⟩
 else if kind=3 then(match xu s with
  |none=>⟨[],[]⟩
  |some r=>⟨[if r.has=true then dC b r.url []else⟨true,b,[]⟩],r.delay⟩)
 else⟨[],[]⟩
theorem nN:∀ {l:Bytes},(∀x∈l,x≠0)->dS l=l
 | [],_=>rfl
 |x::r,h=>by
  show(if x=0 then n7 else [x])++dS r=_;rw[if_neg (h x (by simp)),nN fun y hy=>h y (by simp[hy])];rfl
theorem sq(a b:Bytes):dS (a++b)=dS a++dS b:=cQ
theorem yi:∀ l:Bytes,(dS l).length<=3*l.length
 | []=>af _
 |x::r=>by
  have ih:=yi r;show((if x=0 then n7 else [x])++dS r).length<=_;rw[ae,ag]
  have:(if x=0 then n7 else [x]).length<=3:=by
   split
   ·decide
   simp
  omega
theorem Ia{l:Bytes}(h:oY l=l):∃ m,l=cf m:=⟨signs l,h.symm⟩
theorem Qm{c:Int}(h:c<0∨0x80<=c):∀ y∈enc c,0x80<=b2 y:=by
 have mk:∀ n:Nat,0x80<=n->n<256->0x80<=b2 (UInt8.ofNat n):=fun n h1 h2=>by
  unfold b2;rw[ck h2];omega
 by_cases hb:c<0∨0x10ffff<c∨(0xd800<=c∧c<=0xdfff)
 ·rw[AO hb]
  decide
 by_cases h1:c<0x800
 ·rw[vQ (by omega) h1]
  intro y hy;simp only[aj,bl,or_false]at hy;rcases hy with rfl|rfl
  ·exact mk _ (by omega) (by omega)
  exact mk _ (by omega) (by omega)
 by_cases h2:c<0x10000
 ·rw[rF (by omega) h2 (by omega)]
  intro y hy;simp only[aj,bl,or_false]at hy;rcases hy with rfl|rfl|rfl <;>exact mk _ (by omega) (by omega)
 rw[vR (by omega) (by omega)];intro y hy;simp only[aj,bl,or_false]at hy;rcases hy with rfl|rfl|rfl|rfl <;>exact mk _ (by omega) (by omega)
theorem Sy{y:UInt8}(h:0x80<=b2 y):jm y=[y]:=by
 have:lI (b2 y)=[]:=by
  unfold lI;rw[if_neg (by omega),if_neg (by omega),if_neg (by omega),if_neg (by omega),if_neg (by omega),if_neg (by omega)]
 unfold jm;rw[if_pos this]
theorem Dx:∀ {l:Bytes},(∀y∈l,0x80<=b2 y)->eX l=l
 | [],_=>rfl
 |x::r,h=>by
  show jm x++eX r=_;rw[Sy (h x (by simp)),Dx fun y hy=>h y (by simp[hy])];rfl
theorem Dv(c:Int):∀ y∈lI c,b2 y<0x80∧y≠0:=by
 unfold lI
 repeat' split
 all_goals decide
theorem Ko{x:UInt8}(h:b2 x<0x80):∀ y∈jm x,b2 y<0x80:=by
 unfold jm
 split
 ·intro y hy
  obtain rfl:y=x:=by simpa using hy
  exact h
 exact fun y hy=>(Dv _ y hy).1
theorem Sz{x:UInt8}(h:x≠0):∀ y∈jm x,y≠0:=by
 unfold jm
 split
 ·intro y hy
  obtain rfl:y=x:=by simpa using hy
  exact h
 exact fun y hy=>(Dv _ y hy).2
theorem Dy{l:Bytes}(h:∀ x∈l,x≠0):∀ y∈eX l,y≠0:=by
 intro y hy;obtain⟨x,hx,hy⟩:=cT.mp hy;exact Sz (h x hx) y hy
theorem Lr{l:Bytes}(h:∀ x∈l,b2 x<0x80):cf (l.map b2)=l:=by
 induction l with
 |nil=>rfl
 |cons x r ih =>
  show enc (b2 x)++cf (r.map b2)=_;rw[AN (h x (by simp)),ih fun y hy=>h y (by simp[hy])];rfl
theorem Qt(c:Int):∃ m,eX (enc c)=cf m:=by
 by_cases h:c<0∨0x80<=c
 ·exact⟨[c],by rw[Dx (Qm h)];simp[cf]⟩
 have e:enc c=[UInt8.ofNat c.toNat]:=rE (by omega) (by omega)
 have hx:b2 (UInt8.ofNat c.toNat)<0x80:=by
  unfold b2;rw[ck (by omega)];omega
 refine⟨(eX (enc c)).map b2,(Lr ?_).symm⟩;rw[e];intro y hy;have:eX [UInt8.ofNat c.toNat]=jm (UInt8.ofNat c.toNat):=by simp[eX]
 rw[this]at hy;exact Ko hx y hy
theorem y5:∀ l:List Int,∃m,eX (cf l)=cf m
 | []=>⟨[],rfl⟩
 |c::l=>by
  obtain⟨m1,h1⟩:=Qt c;obtain⟨m2,h2⟩:=y5 l;refine⟨m1++m2,?_⟩
  have:eX (cf (c::l))=eX (enc c)++eX (cf l):=by
   rw[dW];exact cQ
  rw[this,h1,h2,nu]
theorem XB{s:Bytes}(h:oY s=s)(h0:∀ x∈s,x≠0):oj (eX s)=s:=by
 obtain⟨l,hl⟩:=Ia h;obtain⟨m,hm⟩:=y5 l;unfold oj;rw[nN (Dy h0),AG];have:oY (eX s)=eX s:=by rw[hl,hm,Hx]
 rw[this,Ds]

def Ov(a:mq):Url:={U0 with usr:=a.user,fp:=a.pass,host:=a.host,bq:=a.bq,port:=a.port}
theorem a1z{a:mq}(hk:a.host.kind≠0):di (Ov a) false=58::47::47::uI a:=by
 unfold di eP;rw[if_neg (show ¬(Ov a).host.kind=0 from hk)];have e1:gX (Ov a)=[]:=rfl;have e2:qF (Ov a)=[]:=rfl;have e3:QC (Ov a) false=[]:=rfl
 have e4:uH (Ov a)=ye a:=by
  unfold uH ye;show(if a.user=[]∧a.pass=[]then []else if a.pass=[]then a.user++[64]else a.user++[58]++a.pass++[64])=_;by_cases h1:a.user=[]∧a.pass=[]
  ·rw[if_pos h1,if_pos h1]
  rw[if_neg h1,if_neg h1];by_cases h2:a.pass=[]
  ·rw[if_pos h2,if_pos h2,aG]
  rw[if_neg h2,if_neg h2];simp
 have e5:tY (Ov a)=iy a:=by
  unfold tY iy;rfl
 rw[e1,e2,e3,e4,e5];show []++[58]++([47,47]++ye a++dE a.host++iy a)++[]++[]++[]=_;unfold uI;simp
theorem Lu(A:mq)(h8:A.host.six.length=8):(bW A)[0]? = some (S A.user)∧(bW A)[1]? = some (S A.pass)∧(bW A)[13]? = some (.bool A.bq)∧(bW A)[14]? = some (.int .i64 A.port)∧(bW A)[2]? = some (.int .i64 A.host.kind):=by
 obtain⟨u,p,⟨k,nm,f,six⟩,hp,po⟩:=A;simp only at h8;obtain⟨b1,b2,b3,b4,b5,b6,b7,b8,rfl⟩:=eight h8;exact⟨rfl,rfl,rfl,rfl,rfl⟩
theorem Vp(a:mq):∀ j v,(aZ a.host)[j]? = some v->(bW a)[2+j]? = some v:=by
 intro j v h;have hj:=(bf.1 h).1;rw[bT];unfold ld;rw[aT,cu (by simp),cH (by simp;omega)]
 simpa using h

def oI(y:UInt8):Prop:=32<b2 y∧y≠35∧y≠63
def gF(y:UInt8):Prop:=oI y∧y≠47∧y≠92
instance (y:UInt8):Decidable (oI y):=by unfold oI;infer_instance
instance (y:UInt8):Decidable (gF y):=by unfold gF;infer_instance
theorem eV{P:UInt8->Prop} [DecidablePred P] (h:∀ k:Fin 256,P (UInt8.ofNat k.val)) (y:UInt8):P y:=by
 have:=h ⟨y.toNat,y.toNat_lt⟩
 simpa only[cM]using this
theorem a5p:∀ k:Fin 256,ip 5 (b2 (UInt8.ofNat k.val))=false->gF (UInt8.ofNat k.val):=by decide +kernel
theorem a5o:∀ k:Fin 256,ip 4 (b2 (UInt8.ofNat k.val))=false->oI (UInt8.ofNat k.val):=by decide +kernel
theorem a5n:∀ k:Fin 256,ip 3 (b2 (UInt8.ofNat k.val))=false->32<b2 (UInt8.ofNat k.val)∧UInt8.ofNat k.val≠35:=by decide +kernel
theorem a5m:∀ k:Fin 256,ip 2 (b2 (UInt8.ofNat k.val))=false->32<b2 (UInt8.ofNat k.val)∧UInt8.ofNat k.val≠35:=by decide +kernel
theorem a5l:∀ k:Fin 256,ip 1 (b2 (UInt8.ofNat k.val))=false->32<b2 (UInt8.ofNat k.val):=by decide +kernel
theorem a5k:∀ k:Fin 256,ip 0 (b2 (UInt8.ofNat k.val))=false->32<=b2 (UInt8.ofNat k.val):=by decide +kernel
theorem a3A:∀ k:Fin 256,gg (b2 (UInt8.ofNat k.val))=false->UInt8.ofNat k.val≠35∧UInt8.ofNat k.val≠63∧UInt8.ofNat k.val≠47∧UInt8.ofNat k.val≠92∧UInt8.ofNat k.val≠124∧UInt8.ofNat k.val≠58:=by decide +kernel
theorem a3X:∀ k:Fin 256,48<=b2 (UInt8.ofNat k.val)∧b2 (UInt8.ofNat k.val)<=57->gF (UInt8.ofNat k.val):=by decide +kernel
theorem a5v:∀ k:Fin 256,lL (b2 (UInt8.ofNat k.val))=true->32<b2 (UInt8.ofNat k.val):=by decide +kernel
theorem Ru{y:UInt8}(h:ip 5 (b2 y)=false):gF y:=eV (P:=fun y=>ip 5 (b2 y)=false->gF y) a5p y h
theorem Rt{y:UInt8}(h:ip 4 (b2 y)=false):oI y:=eV (P:=fun y=>ip 4 (b2 y)=false->oI y) a5o y h
theorem a0V{y:UInt8}(h:ip 3 (b2 y)=false):32<b2 y∧y≠35:=eV (P:=fun y=>ip 3 (b2 y)=false->32<b2 y∧y≠35) a5n y h
theorem a0U{y:UInt8}(h:ip 2 (b2 y)=false):32<b2 y∧y≠35:=eV (P:=fun y=>ip 2 (b2 y)=false->32<b2 y∧y≠35) a5m y h
theorem a0T{y:UInt8}(h:ip 1 (b2 y)=false):32<b2 y:=eV (P:=fun y=>ip 1 (b2 y)=false->32<b2 y) a5l y h
theorem Rr{y:UInt8}(h:ip 0 (b2 y)=false):32<=b2 y:=eV (P:=fun y=>ip 0 (b2 y)=false->32<=b2 y) a5k y h
theorem Eh{y:UInt8}(h:gg (b2 y)=false):y≠35∧y≠63∧y≠47∧y≠92∧y≠124∧y≠58:=eV (P:=fun y=>gg (b2 y)=false->y≠35∧y≠63∧y≠47∧y≠92∧y≠124∧y≠58) a3A y h
theorem Z4{y:UInt8}(h:48<=b2 y∧b2 y<=57):gF y:=eV (P:=fun y=>48<=b2 y∧b2 y<=57->gF y) a3X y h
theorem W8{y:UInt8}(h:lL (b2 y)=true):32<b2 y:=eV (P:=fun y=>lL (b2 y)=true->32<b2 y) a5v y h
theorem wH:∀ k:Fin 16,gF (ky k.val):=by decide +kernel
theorem Mn(u:Nat):∀ y∈ew u,gF y:=by
 induction u using Nat.strongRecOn with
 |ind u ih =>
  intro y hy;by_cases h:u<16
  ·rw[im h]at hy
   obtain rfl:y=ky u:=by simpa using hy
   exact wH ⟨u,h⟩
  rw[lT h]at hy;rcases au.mp hy with hy|hy
  ·exact ih (u/16) (by omega) y hy
  obtain rfl:y=ky (u%16):=by simpa using hy
  exact wH ⟨u%16,by omega⟩
theorem NB(a:List Int):∀ y∈kS a,gF y:=by
 intro y hy;unfold kS gp at hy;obtain⟨t,_,hy⟩:=cT.mp hy;unfold jh at hy
 split at hy
 ·obtain rfl:y=58:=by simpa using hy
  decide
 split at hy
 ·obtain rfl:y=58:=by simpa using hy
  decide
 exact Mn _ y hy
theorem qN{s:Bytes}{sp:Bool}{h:ie}(e:dh s sp=some h):∀ y∈dE h,gF y:=by
 intro y hy;by_cases hk:h.kind=4
 ·rw[rO h hk]at hy
  simp only[au,bE]at hy;rcases hy with(rfl|hy)|rfl
  ·decide
  ·exact NB _ y hy
  decide
 obtain⟨h1,_,h3⟩:=(gC e).2.1 hk y hy;have:=Eh h3;exact⟨⟨h1,this.1,this.2.1⟩,this.2.2.1,this.2.2.2.1⟩
theorem kX{s:Bytes}{sp:Bool}{h:ie}(e:dh s sp=some h):h.kind≠0:=by
 cases hkind e with
 |six a h8 ha hs=>simp
 |name n e hs hd hn hb he=>simp
 |four n e hs h=>simp
 |empty e h=>simp
 |Ej e hs h hb=>simp
theorem zh{s:Bytes}{h:ie}(e:dh s true=some h):h.kind≠1:=by
 intro hk
 have key:∀ sp:Bool,qh s sp h->sp=false:=by
  intro sp hK;cases hK with
  |six a h8 ha hs=>simp at hk
  |name n e hs hd hn hb he=>simp at hk
  |four n e hs h=>simp at hk
  |empty _ _=>assumption
  |Ej e hs h hb=>simp at hk
 cases key true (hkind e)
theorem Ht{aH:Bytes}{a:mq}(ok:KY aH a):∀ y∈iy a,gF y:=by
 intro y hy;unfold iy at hy
 split at hy
 ·next hp =>
  rcases aj.mp hy with rfl|hy
  ·decide
  rcases ok.q with⟨q1,_⟩|⟨_,q2,_⟩
  ·rw[q1]at hp;cases hp
  have e:Lib.itoa a.port=Lib.decDigits a.port.toNat:=by unfold Lib.itoa;rw[if_neg (by omega)]
  rw[e]at hy;exact Z4 (vD _ y hy)
 cases hy
theorem yh{aH:Bytes}{a:mq}(ok:KY aH a):∀ y∈uI a,gF y:=by
 intro y hy;obtain⟨n,hh,_⟩:=ok.h;obtain⟨x,hx⟩:=ok.u;obtain⟨z,hz⟩:=ok.p;have hu:∀ y∈a.user,gF y:=fun y hy=>by rw[hx]at hy;exact Ru (Bq y hy)
 have hp:∀ y∈a.pass,gF y:=fun y hy=>by rw[hz]at hy;exact Ru (Bq y hy)
 unfold uI at hy;rcases au.mp hy with hy|hy
 ·rcases au.mp hy with hy|hy
  ·unfold ye at hy
   split at hy
   ·cases hy
   rcases au.mp hy with hy|hy
   ·rcases au.mp hy with hy|hy
    ·exact hu y hy
    split at hy
    ·cases hy
    rcases aj.mp hy with rfl|hy
    ·decide
    exact hp y hy
   obtain rfl:y=64:=by simpa using hy
   decide
  exact qN hh y hy
 exact Ht ok y hy
theorem xm{y:UInt8}(h:gF y)(sp:Bool):ks sp y=false:=by
 unfold ks;have h1:(y==47)=false:=by simpa using h.2.1
 have h2:(y==92)=false:=by simpa using h.2.2
 rw[h1,h2];cases sp <;>rfl
theorem zz{sp:Bool}:∀ {l:List Bytes},(∀x∈l,uR sp x)->∀ y∈bF l,oI y
 | [],_,y,hy=>by cases hy
 |p::r,h,y,hy=>by
  unfold bF at hy;rcases au.mp hy with hy|hy
  ·rcases au.mp hy with hy|hy
   ·obtain rfl:y=47:=by simpa using hy
    decide
   have e:=(h p (by simp)).e;rw[<-e]at hy;exact Rt (qJ enc4 y hy).1
  exact zz (fun x hx=>h x (by simp[hx])) y hy
theorem xZ{a b:Url}(h1:a.aH=b.aH)(h2:a.usr=b.usr)(h3:a.fp=b.fp)(h4:a.host=b.host)(h5:a.bq=b.bq)(h6:a.port=b.port)(h7:a.opq=b.opq)(h8:a.flat=b.flat)(h9:a.path=b.path)(h10:a.bS=b.bS)(h11:a.q=b.q)(h12:a.bZ=b.bZ)(h13:a.f=b.f):a=b:=by
 cases a;cases b;simp_all
def fj(u:Url):Bytes:=eP u++gX u
theorem my{u:Url}(hk:u.host.kind≠0):eP u=47::47::uI (fQ u):=by
 have h:=a1z (a:=fQ u) hk;unfold di at h;have e1:gX (Ov (fQ u))=[]:=rfl;have e2:qF (Ov (fQ u))=[]:=rfl;have e3:QC (Ov (fQ u)) false=[]:=rfl;rw[e1,e2,e3]at h
 have e4:eP (Ov (fQ u))=eP u:=by
  unfold eP;rw[if_neg (show ¬(Ov (fQ u)).host.kind=0 from hk),if_neg hk];rfl
 rw[e4]at h;have h2:[]++[58]++eP u++[]++[]++[]=58::47::47::uI (fQ u):=h;simp only[bJ,aG,yI]at h2;injection h2
theorem s8(u:Url):di u true=u.aH++[58]++fj u++(if u.bS=true then 63::u.q else [])++(if u.bZ=true then 35::u.f else []):=by
 unfold di fj qF QC;rw[jq,aT (u.aH++[58]) (eP u) (gX u)];rfl
theorem a5z{l:Bytes}(h:∀ y∈l,oI y):(35:UInt8)∉l∧(63:UInt8)∉l:=⟨fun hm=>(h _ hm).2.1 rfl,fun hm=>(h _ hm).2.2 rfl⟩
theorem Nk{u:Url}(g:Good u)(ho:u.opq=false):∀ y∈fj u,oI y:=by
 have hp:gX u=bF u.path:=by unfold gX;rw[ho];rfl
 have hpf:∀ y∈gX u,oI y:=by rw[hp];exact zz g.pc
 have key:∀ {aH:Bytes},KY aH (fQ u)->∀ y∈fj u,oI y:=by
  intro aH ha y hy;obtain⟨n,hh,_⟩:=ha.h;unfold fj at hy;rw[my (u:=u) (kX hh)]at hy;rcases au.mp hy with hy|hy
  ·rcases aj.mp hy with rfl|hy
   ·decide
   rcases aj.mp hy with rfl|hy
   ·decide
   exact(yh ha y hy).1
  exact hpf y hy
 cases g.body with
 |opq h1=>rw[ho]at h1;cases h1
 |none h1 h2 h3 h5 hq =>
  intro y hy;unfold fj at hy;rcases au.mp hy with hy|hy
  ·have e:eP u=qH u:=by unfold eP;rw[if_pos (by rw[h3];rfl)]
   rw[e]at hy;unfold qH at hy
   split at hy
   ·simp only[aj,bl,or_false]at hy
    rcases hy with rfl|rfl <;>decide
   cases hy
  exact hpf y hy
 |asked h1 hs ha hq=>exact key ha
 |file h1 hs h3 h5 hq =>
  intro y hy
  have hk:u.host.kind≠0:=by
   rcases h3 with h3|⟨n,_,h3,_⟩
   ·rw[h3];simp
   exact kX h3
  unfold fj at hy;rw[my hk]at hy
  have hw:uI (fQ u)=dE u.host:=by
   unfold uI ye iy;show(if u.usr=[]∧u.fp=[]then _ else _)++_++(if u.bq=true then _ else _)=_;rw[if_pos ⟨h5.u,h5.p⟩,if_neg (by rw[h5.h];simp)];simp[fQ]
  rw[hw]at hy;rcases au.mp hy with hy|hy
  ·rcases aj.mp hy with rfl|hy
   ·decide
   rcases aj.mp hy with rfl|hy
   ·decide
   rcases h3 with h3|⟨n,_,h3,_⟩
   ·rw[h3]at hy
    cases hy
   exact(qN h3 y hy).1
  exact hpf y hy
theorem NG{u:Url}(g:Good u):fc (eh (di u true))=⟨true,u.aH,fj u,u.bS,u.q,u.bZ,u.f⟩:=by
 have hq:∀ y∈u.q,32<b2 y∧y≠35:=by
  intro y hy;have e:=g.qe;rw[<-e]at hy;unfold Nw at hy
  split at hy
  ·exact a0V (qJ enc3 y hy).1
  exact a0U (qJ enc2 y hy).1
 have hf:∀ y∈u.f,32<b2 y:=by
  intro y hy;have e:=g.fe;rw[<-e]at hy;exact a0T (qJ enc1 y hy).1
 have hr:((35:UInt8)∉fj u∧(63:UInt8)∉fj u)∧(∀y∈fj u,32<=b2 y)∧∀ y,(fj u).getLast? = some y->¬ b2 y<=32:=by
  cases ho:u.opq with
  |false =>
   have:=Nk g ho;refine⟨a5z this,fun y hy=>by have:=(this y hy).1;omega,fun y hy=>?_⟩;have:=(this y (Ce hy)).1;omega
  |true =>
   cases g.body with
   |none h1=>rw[ho]at h1;cases h1
   |file h1=>rw[ho]at h1;cases h1
   |asked h1=>rw[ho]at h1;cases h1
   |opq h1 h2 h3 h4 h5 h7 h8 h9 h10 =>
    have e:fj u=u.flat:=by
     unfold fj eP qH gX;rw[if_pos (by rw[h3];rfl),if_neg (by rw[ho];simp),ho];rfl
    rw[e];refine⟨h10,fun y hy=>?_,fun y hy h32=>?_⟩
    ·rw[<-h7]at hy
     exact Rr (pM hy).1
    have hm:=Ce hy;rw[<-h7]at hm;have:=Rr (pM hm).1;have e2:b2 y=32:=by omega
    have:y=32:=by
     have:=eV (P:=fun y=>b2 y=32->y=32) (by decide +kernel) y e2;exact this
    rw[this]at hy;exact h9 hy
 have hs:∀ y∈u.aH,32<b2 y:=fun y hy=>W8 (BE g.aH.1 y hy);have hne:u.aH ≠ []:=fun e=>by have:=g.aH.1;rw[e]at this;cases this
 have e58:b2 58=58:=by decide
 have e63:b2 63=63:=by decide
 have e35:b2 35=35:=by decide
 rw[s8,Gd]
 ·exact Tm g.aH hr.1 (fun hm=>(hq _ hm).2 rfl) g.q g.f
 ·intro y hy
  simp only[au,bE]at hy;rcases hy with(((hy|rfl)|hy)|hy)|hy
  ·have:=hs y hy;omega
  ·omega
  ·exact hr.2.1 y hy
  ·split at hy
   ·rcases aj.mp hy with rfl|hy
    ·omega
    have:=(hq y hy).1;omega
   cases hy
  split at hy
  ·rcases aj.mp hy with rfl|hy
   ·omega
   have:=hf y hy;omega
  cases hy
 ·intro y hy
  cases hsc:u.aH with
  |nil=>exact absurd hsc hne
  |cons c t =>
   rw[hsc]at hy;simp only[bd,k9,dA]at hy;have:=hs c (by rw[hsc];simp);rw[<-hy];omega
 intro y hy;rw[fq]at hy
 have key:∀ (b:Bool) (c:UInt8) (l:Bytes),32<b2 c->(∀y∈l,32<b2 y)->∀ z,(if b=true then c::l else []).getLast? = some z->¬ b2 z<=32:=by
  intro b c l hc hl z hz
  split at hz
  ·rcases aj.mp (Ce hz)with rfl|hm
   ·omega
   have:=hl z hm;omega
  cases hz
 cases hL:(if u.bZ=true then 35::u.f else []).getLast? with
 |some z =>
  rw[hL]at hy;simp only[Cg,dA]at hy;rw[<-hy];exact key _ _ _ (by omega) hf z hL
 |none =>
  rw[hL,a2f,fq]at hy;cases hM:(if u.bS=true then 63::u.q else []).getLast? with
  |some z =>
   rw[hM]at hy;simp only[Cg,dA]at hy;rw[<-hy];exact key _ _ _ (by omega) (fun y hy=>(hq y hy).1) z hM
  |none =>
   rw[hM,a2f,fq]at hy;cases hN:(fj u).getLast? with
   |some z =>
    rw[hN]at hy;simp only[Cg,dA]at hy;rw[<-hy];exact hr.2.2 z hN
   |none =>
    rw[hN,a2f,fq]at hy;simp only[a8x,Cg,dA]at hy;rw[<-hy];omega
theorem Iq{u:Url}(g:Good u)(rest:Bytes):dj u.aH ⟨true,u.aH,rest,u.bS,u.q,u.bZ,u.f⟩={U0 with aH:=u.aH,bS:=u.bS,q:=u.q,bZ:=u.bZ,f:=u.f}:=by
 unfold dj;have h1:=g.qe;have h2:=g.fe;unfold Nw at h1;dsimp only;rw[h1,h2]
theorem Pi{u u0:Url}(g:Good u)(ho:u.opq=false)(ha:KY u.aH (fQ u))(hp:eK u.aH=true->u.path ≠ [])(e0:u0={U0 with aH:=u.aH,bS:=u.bS,q:=u.q,bZ:=u.bZ,f:=u.f}) :
  kf u0 (uI (fQ u)++bF u.path)=some u:=by
 unfold kf;have es:u0.aH=u.aH:=by rw[e0]
 rw[es,Je (fun y hy=>xm (yh ha y hy) _) (wU u.path)];dsimp only;rw[Av ha];dsimp only
 have hpt:(if eK u.aH=true∨bF u.path ≠ []then gE u.aH (bF u.path)else u0.path)=u.path:=by
  by_cases hn:u.path=[]
  ·have hs:eK u.aH=false:=by
    cases h:eK u.aH with
    |false=>rfl
    |true=>exact absurd hn (hp h)
   rw[if_neg (by rw[hs,hn];simp[bF]),e0,hn];rfl
  rw[if_pos (.inr fun e=>hn (MJ.mp e)),xh g.pc g.fi hn]
 rw[hpt,e0]
 congr 1
 exact xZ rfl rfl rfl rfl rfl rfl ho.symm (g.fl ho).symm rfl rfl rfl rfl rfl
theorem a1D{sp:Bool}{t:Bytes}(h:∀ y,t.head? = some y->ks sp y=false):ra sp (47::47::t)=2:=by
 unfold ra;rw[aY (xI sp),aY (xI sp)];cases t with
 |nil=>rfl
 |cons c r =>
  rw[aX (by rw[h c rfl];simp)];rfl
theorem a5V{sp:Bool}{t:Bytes}:2<=ra sp (47::47::t):=by
 unfold ra;rw[aY (xI sp),aY (xI sp)];simp
theorem Hy{u:Url}(g:Good u)(b:Url):eU b (fc (eh (di u true)))=some u:=by
 rw[NG g];have hst:=Iq g (fj u);generalize hP:(⟨true,u.aH,fj u,u.bS,u.q,u.bZ,u.f⟩:lH)=p at *;have p1:p.iO=true:=by rw[<-hP]
 have p2:p.aH=u.aH:=by rw[<-hP]
 have p3:p.rest=fj u:=by rw[<-hP]
 have p4:p.bS=u.bS:=by rw[<-hP]
 have p5:p.bZ=u.bZ:=by rw[<-hP]
 unfold eU;have hpo:u.opq=false->gX u=bF u.path:=fun h=>by unfold gX;rw[h];rfl
 cases g.body with
 |file h1 hs h3 h5 hq =>
  rw[if_pos (.inl ⟨p1,by rw[p2];exact hs⟩)]
  have hk:u.host.kind≠0:=by
   rcases h3 with h3|⟨n,_,h3,_⟩
   ·rw[h3];simp
   exact kX h3
  have hw:uI (fQ u)=dE u.host:=by
   unfold uI ye iy;show(if u.usr=[]∧u.fp=[]then _ else _)++_++(if u.bq=true then _ else _)=_;rw[if_pos ⟨h5.u,h5.p⟩,if_neg (by rw[h5.h];simp)];simp[fQ]
  have hr:p.rest=47::47::(dE u.host++bF u.path):=by
   rw[p3];unfold fj;rw[my hk,hw,hpo h1];rfl
  unfold lP;dsimp only;rw[<-hs,hst,hr,if_pos a5V];show iF _ (dE u.host++bF u.path)=some u
  have hpl:∀ y∈dE u.host,gF y:=by
   rcases h3 with h3|⟨n,_,h3,_⟩
   ·rw[h3];intro y hy;cases hy
   exact qN h3
  unfold iF;rw[Je (fun y hy=>xm (hpl y hy) _) (wU u.path)];dsimp only;have hpb:=xh g.pc g.fi hq
  have hdr:dg (dE u.host)=false:=by
   rcases h3 with h3|⟨n,_,h3,_⟩
   ·rw[h3];rfl
   cases hd:dg (dE u.host)with
   |false=>rfl
   |true =>
    exfalso;cases hh:dE u.host with
    |nil=>rw[hh]at hd;cases hd
    |cons x r =>
     cases r with
     |nil=>rw[hh]at hd;cases hd
     |cons y r2 =>
      cases r2 with
      |cons z r3=>rw[hh]at hd;cases hd
      |nil =>
       rw[hh]at hd;unfold dg at hd;rw[bD]at hd;by_cases hk4:u.host.kind=4
       ·rw[rO _ hk4]at hh
        have:x=91:=by
         simp only[bd]at hh;injection hh with hh _
         exact hh.symm
        rw[this]at hd;revert hd;intro hd;exact absurd hd.1 (by decide)
       have hb:=Eh ((gC h3).2.1 hk4 y (by rw[hh];simp)).2.2;have:=hd.2;simp only[fF,beq_iff_eq]at this;rcases this with e|e
       ·exact hb.2.2.2.2.2 e
       exact hb.2.2.2.2.1 e
  rw[if_neg (by rw[hdr];simp)];rcases h3 with h3|⟨n,hn,h3,hl⟩
  ·rw[if_pos (by rw[h3];rfl),hpb]
   congr 1
   exact xZ rfl h5.u.symm h5.p.symm h3.symm h5.h.symm h5.n.symm h1.symm (g.fl h1).symm rfl rfl rfl rfl rfl
  have hne:dE u.host ≠ []:=fun e=>zh h3 ((gC h3).2.2.mp e);rw[if_neg hne,(gC h3).1];dsimp only;rw[if_neg (show ¬(u.host.kind=2∧u.host.name=[108,111,99,97,108,104,111,115,116])from hl),hpb]
  congr 1
  exact xZ rfl h5.u.symm h5.p.symm rfl h5.h.symm h5.n.symm h1.symm (g.fl h1).symm rfl rfl rfl rfl rfl
 |opq h1 h2 h3 h4 h5 h7 h8 h9 h10 =>
  have hnf:u.aH≠aW:=fun e=>by rw[e,oH]at h2;cases h2
  rw[if_neg (by rw[p1,p2];simp[hnf]),if_neg (by rw[p2,h2];simp),if_pos ⟨p1,by rw[p2,h2];simp⟩]
  have e:fj u=u.flat:=by
   unfold fj eP qH gX;rw[if_pos (by rw[h3];rfl),if_neg (by rw[h1];simp),h1];rfl
  unfold fN;rw[p2,hst,p3,e]
  split
  ·next r hr=>rw[hr]at h8;exact absurd rfl h8
  ·next r _ hr=>rw[hr]at h8;exact absurd rfl h8
  dsimp only;rw[h7,if_neg (fun h=>h9 h.2)]
  congr 1
  exact xZ rfl h5.u.symm h5.p.symm h3.symm h5.h.symm h5.n.symm h1.symm rfl h4.symm rfl rfl rfl rfl
 |none h1 h2 h3 h5 hq =>
  have hnf:u.aH≠aW:=fun e=>by rw[e,oH]at h2;cases h2
  rw[if_neg (by rw[p1,p2];simp[hnf]),if_neg (by rw[p2,h2];simp),if_pos ⟨p1,by rw[p2,h2];simp⟩];unfold fN;have hah:eP u=qH u:=by unfold eP;rw[if_pos (by rw[h3];rfl)]
  obtain⟨x,l,hl⟩:∃ x l,u.path=x::l:=by
   cases hp:u.path with
   |nil=>exact absurd hp hq
   |cons x l=>exact⟨x,l,rfl⟩
  have hpc:=g.pc;rw[hl]at hpc;have hseg:dc u.aH [] (x++bF l)=x::l:=zP hpc (fun h3=>absurd h3 hnf)
  have hfin:∀ P:List Bytes,P=u.path->some {({U0 with aH:=u.aH,bS:=u.bS,q:=u.q,bZ:=u.bZ,f:=u.f}:Url)with path:=P}=some u:=by
   rintro P rfl
   congr 1
   exact xZ rfl h5.u.symm h5.p.symm h3.symm h5.h.symm h5.n.symm h1.symm (g.fl h1).symm rfl rfl rfl rfl rfl
  by_cases hd:u.opq=false∧2<=u.path.length∧u.path.head? = some []
  ·have hr:p.rest=47::46::bF u.path:=by
    rw[p3];unfold fj;rw[hah,hpo h1];unfold qH;rw[if_pos hd];rfl
   rw[p2,hst,hr];show some _=some u;refine hfin _ ?_
   have e1:fO (eK u.aH) (46::bF u.path)=[46]::u.path:=by
    have:=EJ (sp:=eK u.aH) (p:=[46]) (fun y hy=>by rw[bE.mp hy,h2];rfl) (x++bF l);have e2:fO (eK u.aH) (x++bF l)=x::l:=s7 x l (fun q hq y hy=>(hpc q hq).s y hy);rw[hl];show fO (eK u.aH) ([46]++(47::(x++bF l)))=_;rw[this,e2]
   unfold dc;rw[e1,hl];show ji u.aH (jV u.aH [] [46] false) (x::l)=x::l
   have e3:jV u.aH [] [46] false=[]:=by
    unfold jV;rw[if_neg (by decide),if_pos (by decide)];rfl
   rw[e3];have:=q8 (aH:=u.aH) (x::l) [] hpc (fun _ _ h3=>absurd h3 hnf);rw[this,bJ]
  have hr:p.rest=47::(x++bF l):=by
   rw[p3];unfold fj;rw[hah,hpo h1];unfold qH;rw[if_neg hd,hl];rfl
  have hx:∀ r,x++bF l≠47::r:=by
   intro r e;cases x with
   |nil =>
    cases l with
    |nil=>cases e
    |cons y l2=>exact hd ⟨h1,by rw[hl];simp,by rw[hl];rfl⟩
   |cons c t =>
    injection e with e _
    have:=(hpc (c::t) (by simp)).s c (by simp);rw[e,xI]at this;cases this
  rw[p2,hst,hr]
  split
  ·next r e =>
   injection e with _ e
   exact absurd e (hx r)
  ·next r _ e =>
   injection e with _ e
   rw[<-e];refine hfin _ ?_;rw[hl];exact hseg
  next _ n2=>exact absurd rfl (n2 _)
 |asked h1 hs ha hp =>
  obtain⟨n,hh,_⟩:=ha.h;have hk:u.host.kind≠0:=kX hh
  have hr:p.rest=47::47::(uI (fQ u)++bF u.path):=by
   rw[p3];unfold fj;rw[my hk,hpo h1];rfl
  rw[if_neg (by rw[p1,p2];simp[hs])];have hak:=Pi g h1 ha hp rfl;cases hsp:eK u.aH with
  |true =>
   rw[if_pos ⟨⟨p1,by rw[p2];exact hsp⟩,.inr (by rw[hr];rfl)⟩,p2,hst,hsp,hr]
   have hsl:ra true (47::47::(uI (fQ u)++bF u.path))=2:=by
    refine a1D fun y hy=>?_
    have hw:uI (fQ u) ≠ []:=by
     intro e;unfold uI at e;have e1:=(mm.mp (mm.mp e).1).2;rw[hsp]at hh;exact zh hh ((gC hh).2.2.mp e1)
    cases hc:uI (fQ u)with
    |nil=>exact absurd hc hw
    |cons c t =>
     rw[hc]at hy;injection hy with hy
     rw[<-hy];exact xm (yh ha c (by rw[hc];simp)) _
   rw[hsl];exact hak
  |false =>
   rw[if_neg (by rw[p2,hsp];simp),if_pos ⟨p1,by rw[p2,hsp];simp⟩];unfold fN;rw[p2,hst,hr];exact hak

def eo(y:UInt8):Prop:=32<=b2 y∧b2 y<=126
instance (y:UInt8):Decidable (eo y):=by unfold eo;infer_instance
theorem FN:∀ k:Fin 256,lL (b2 (UInt8.ofNat k.val))=true->eo (UInt8.ofNat k.val):=by decide +kernel
theorem Lp:∀ k:Fin 256,ip 0 (b2 (UInt8.ofNat k.val))=false->eo (UInt8.ofNat k.val):=by decide +kernel
theorem Lq:∀ k:Fin 256,iP (b2 (UInt8.ofNat k.val))=true->eo (UInt8.ofNat k.val):=by decide +kernel
theorem Pg{y:UInt8}(h:lL (b2 y)=true):eo y:=eV (P:=fun y=>lL (b2 y)=true->eo y) FN y h
theorem Vj{y:UInt8}(h:ip 0 (b2 y)=false):eo y:=eV (P:=fun y=>ip 0 (b2 y)=false->eo y) Lp y h
theorem Vk{y:UInt8}(h:iP (b2 y)=true):eo y:=eV (P:=fun y=>iP (b2 y)=true->eo y) Lq y h
theorem rq{set:Int}(h:Enc set){l:Bytes}:∀ y∈dq set l,eo y:=fun y hy=>⟨by have:=(qJ h y hy).2.1;omega,(qJ h y hy).2.2⟩
theorem Vl{s:Bytes}(h:qZ s=true):∀ y∈s,eo y:=by
 cases s with
 |nil=>cases h
 |cons c t =>
  unfold qZ at h;rw[bD,bo]at h;intro y hy;rcases aj.mp hy with rfl|hy
  ·exact Vk h.1
  exact Pg (h.2 y hy)
theorem CF:∀ k:Fin 16,eo (ky k.val):=by decide +kernel
theorem Vi(u:Nat):∀ y∈ew u,eo y:=by
 induction u using Nat.strongRecOn with
 |ind u ih =>
  intro y hy;by_cases h:u<16
  ·rw[im h]at hy
   obtain rfl:y=ky u:=by simpa using hy
   exact CF ⟨u,h⟩
  rw[lT h]at hy;rcases au.mp hy with hy|hy
  ·exact ih (u/16) (by omega) y hy
  obtain rfl:y=ky (u%16):=by simpa using hy
  exact CF ⟨u%16,by omega⟩
theorem Vm(a:List Int):∀ y∈kS a,eo y:=by
 intro y hy;unfold kS gp at hy;obtain⟨t,_,hy⟩:=cT.mp hy;unfold jh at hy
 split at hy
 ·obtain rfl:y=58:=by simpa using hy
  decide
 split at hy
 ·obtain rfl:y=58:=by simpa using hy
  decide
 exact Vi _ y hy
theorem CG{s:Bytes}{sp:Bool}{h:ie}(e:dh s sp=some h):∀ y∈dE h,eo y:=by
 intro y hy;by_cases hk:h.kind=4
 ·rw[rO h hk]at hy
  simp only[au,bE]at hy;rcases hy with(rfl|hy)|rfl
  ·decide
  ·exact Vm _ y hy
  decide
 obtain⟨h1,h2,_⟩:=(gC e).2.1 hk y hy;exact⟨by omega,h2⟩
theorem Pe{aH:Bytes}{a:mq}(ok:KY aH a):∀ y∈iy a,eo y:=by
 intro y hy;unfold iy at hy
 split at hy
 ·next hp =>
  rcases aj.mp hy with rfl|hy
  ·decide
  rcases ok.q with⟨q1,_⟩|⟨_,q2,_⟩
  ·rw[q1]at hp;cases hp
  have e:Lib.itoa a.port=Lib.decDigits a.port.toNat:=by unfold Lib.itoa;rw[if_neg (by omega)]
  rw[e]at hy;have:=vD _ y hy;exact⟨by omega,by omega⟩
 cases hy
theorem ZF{aH:Bytes}{a:mq}(ok:KY aH a):∀ y∈uI a,eo y:=by
 intro y hy;obtain⟨n,hh,_⟩:=ok.h;obtain⟨x,hx⟩:=ok.u;obtain⟨z,hz⟩:=ok.p;have hu:∀ y∈a.user,eo y:=fun y hy=>by rw[hx]at hy;exact rq a33 y hy
 have hp:∀ y∈a.pass,eo y:=fun y hy=>by rw[hz]at hy;exact rq a33 y hy
 unfold uI at hy;rcases au.mp hy with hy|hy
 ·rcases au.mp hy with hy|hy
  ·unfold ye at hy
   split at hy
   ·cases hy
   rcases au.mp hy with hy|hy
   ·rcases au.mp hy with hy|hy
    ·exact hu y hy
    split at hy
    ·cases hy
    rcases aj.mp hy with rfl|hy
    ·decide
    exact hp y hy
   obtain rfl:y=64:=by simpa using hy
   decide
  exact CG hh y hy
 exact Pe ok y hy
theorem CH{sp:Bool}:∀ {l:List Bytes},(∀x∈l,uR sp x)->∀ y∈bF l,eo y
 | [],_,y,hy=>by cases hy
 |p::r,h,y,hy=>by
  unfold bF at hy;rcases au.mp hy with hy|hy
  ·rcases au.mp hy with hy|hy
   ·obtain rfl:y=47:=by simpa using hy
    decide
   have e:=(h p (by simp)).e;rw[<-e]at hy;exact rq enc4 y hy
  exact CH (fun x hx=>h x (by simp[hx])) y hy
theorem Pf{u:Url}(g:Good u):∀ y∈fj u,eo y:=by
 have hpf:∀ y∈gX u,eo y:=by
  intro y hy;unfold gX at hy
  split at hy
  ·next hop =>
   cases g.body with
   |opq h1 h2 h3 h4 h5 h7 h8 h9 h10 =>
    rw[<-h7]at hy;exact Vj (pM hy).1
   |none h1=>rw[h1]at hop;cases hop
   |asked h1=>rw[h1]at hop;cases hop
   |file h1=>rw[h1]at hop;cases hop
  exact CH g.pc y hy
 have key:∀ {aH:Bytes},KY aH (fQ u)->∀ y∈fj u,eo y:=by
  intro aH ha y hy;obtain⟨n,hh,_⟩:=ha.h;unfold fj at hy;rw[my (u:=u) (kX hh)]at hy;rcases au.mp hy with hy|hy
  ·rcases aj.mp hy with rfl|hy
   ·decide
   rcases aj.mp hy with rfl|hy
   ·decide
   exact ZF ha y hy
  exact hpf y hy
 have key2:u.host=H0->∀ y∈fj u,eo y:=by
  intro h3 y hy;unfold fj at hy;rcases au.mp hy with hy|hy
  ·have e:eP u=qH u:=by unfold eP;rw[if_pos (by rw[h3];rfl)]
   rw[e]at hy;unfold qH at hy
   split at hy
   ·simp only[aj,bl,or_false]at hy
    rcases hy with rfl|rfl <;>decide
   cases hy
  exact hpf y hy
 cases g.body with
 |opq h1 h2 h3=>exact key2 h3
 |none h1 h2 h3 h5 hq=>exact key2 h3
 |asked h1 hs ha hq=>exact key ha
 |file h1 hs h3 h5 hq =>
  intro y hy
  have hk:u.host.kind≠0:=by
   rcases h3 with h3|⟨n,_,h3,_⟩
   ·rw[h3];simp
   exact kX h3
  unfold fj at hy;rw[my hk]at hy
  have hw:uI (fQ u)=dE u.host:=by
   unfold uI ye iy;show(if u.usr=[]∧u.fp=[]then _ else _)++_++(if u.bq=true then _ else _)=_;rw[if_pos ⟨h5.u,h5.p⟩,if_neg (by rw[h5.h];simp)];simp[fQ]
  rw[hw]at hy;rcases au.mp hy with hy|hy
  ·rcases aj.mp hy with rfl|hy
   ·decide
   rcases aj.mp hy with rfl|hy
   ·decide
   rcases h3 with h3|⟨n,_,h3,_⟩
   ·rw[h3]at hy
    cases hy
   exact CG h3 y hy
  exact hpf y hy
theorem KF{u:Url}(g:Good u):∀ y∈di u true,eo y:=by
 intro y hy;rw[s8]at hy;have hq:∀ y∈u.q,eo y:=fun y hy=>by rw[<-g.qe]at hy;exact rq (EP u.aH) y hy
 have hf:∀ y∈u.f,eo y:=fun y hy=>by rw[<-g.fe]at hy;exact rq enc1 y hy
 rcases au.mp hy with hy|hy
 ·rcases au.mp hy with hy|hy
  ·rcases au.mp hy with hy|hy
   ·rcases au.mp hy with hy|hy
    ·exact Vl g.aH.1 y hy
    obtain rfl:y=58:=by simpa using hy
    decide
   exact Pf g y hy
  split at hy
  ·rcases aj.mp hy with rfl|hy
   ·decide
   exact hq y hy
  cases hy
 split at hy
 ·rcases aj.mp hy with rfl|hy
  ·decide
  exact hf y hy
 cases hy

def wc(x:UInt8):Bool:=kY x||decide (x=43∨x=45∨x=46∨x=69∨x=101∨x=104∨x=119∨x=120)
theorem b0c:∀ k:Fin 256,wc (UInt8.ofNat k.val)=true->(UInt8.ofNat k.val≠40∧eW (UInt8.ofNat k.val)=false)∧eo (UInt8.ofNat k.val):=by decide +kernel
theorem TP{x:UInt8}(h:wc x=true):(x≠40∧eW x=false)∧eo x:=kh (P:=fun x=>wc x=true->(x≠40∧eW x=false)∧eo x) b0c x h
theorem a3W:∀ k:Fin 256,¬fI (b2 (UInt8.ofNat k.val)) 10<0->kY (UInt8.ofNat k.val)=true:=by decide +kernel
theorem VF{x:UInt8}(h:¬ fI (b2 x) 10<0):kY x=true:=kh (P:=fun x=>¬ fI (b2 x) 10<0->kY x=true) a3W x h
theorem pW{s:Bytes}{n:Int}(h:dk s=some n):∀ x∈s,kY x=true:=by
 unfold dk at h
 split at h
 ·cases h
 intro x hx;refine VF fun hd=>?_;rw[IH s 0 ⟨x,hx,hd⟩]at h;cases h
theorem qR{x:UInt8}(h:kY x=true):wc x=true:=by unfold wc;rw[h];rfl
theorem Ju(c:UInt8):∀ (s:Bytes),∀x∈s,x=c∨x∈(bY c s).1∨x∈(bY c s).2.1
 | [],x,h=>by cases h
 |y::r,x,h=>by
  have ih:=Ju c r;unfold bY;by_cases hy:y=c
  ·subst hy
   rcases aj.mp h with rfl|h
   ·exact .inl rfl
   simp;exact .inr h
  rcases aj.mp h with rfl|h
  ·simp[hy]
  rcases ih x h with h1|h1|h1
  ·exact .inl h1
  ·right;left;simp[hy,h1]
  right;right;simp[hy,h1]
theorem JG{t:Bytes}{m:Int}{p:Int×Int}(h:DD t m=some p):∀ x∈t,wc x=true:=by
 unfold DD at h
 split at h
 ·cases h
 split at h
 ·cases h
 next n hn =>
 have hd:=pW hn;intro x hx;rcases Ju 46 t x hx with rfl|h1|h1
 ·decide
 ·exact qR (hd x (b4o _ h1))
 exact qR (hd x (b2Z _ h1))
theorem VM{s:Bytes}{n:Int}(h:rI s=some n):∀ x∈s,wc x=true:=by
 have hd:∀ (c:UInt8),s.head? = some c->wc c=true->(∀x∈s.drop 1,wc x=true)->∀ x∈s,wc x=true:=by
  intro c h1 h2 h3;cases s with
  |nil=>intro x hx;cases hx
  |cons y r =>
   obtain rfl:y=c:=by simpa using h1
   intro x hx;rcases aj.mp hx with rfl|hx
   ·exact h2
   exact h3 x hx
 unfold rI at h
 split at h
 ·next h1 =>
  split at h
  ·cases h
  rw[dp]at h;obtain⟨n',h2,_⟩:=h;exact hd 45 h1 (by decide) fun x hx=>qR (pW h2 x hx)
 by_cases h1:s.head? = some 43
 ·rw[if_pos h1]at h
  split at h
  ·cases h
  exact hd 43 h1 (by decide) fun x hx=>qR (pW h x hx)
 rw[if_neg h1]at h
 split at h
 ·cases h
 exact fun x hx=>qR (pW h x hx)
theorem JF{t:Bytes}{p:Int×Int}(h:sM t=some p):∀ x∈t,wc x=true:=by
 unfold sM at h
 split at h
 ·exact JG h
 next e u he =>
 split at h
 ·cases h
 next m hm =>
 have h1:=VM hm;have h2:=JG h;intro x hx;rw[<-List.takeWhile_append_dropWhile (p:=nE) (l:=t),he]at hx;rcases au.mp hx with hx|hx
 ·exact h2 x hx
 rcases aj.mp hx with rfl|hx
 ·obtain⟨x',r',e',hx'⟩:=dw_head (p:=nE) (s:=t) (by rw[he];simp)
  rw[he]at e';cases e';unfold nE isE at hx'
  have:x=101∨x=69:=by
   by_cases a37:x=101
   ·exact .inl a37
   exact .inr (by simpa[a37]using hx')
  rcases this with rfl|rfl <;>decide
 exact h1 x hx
theorem VV{s:Bytes}{f:Flo}(h:Gs s=some f):∀ x∈s,wc x=true:=by
 unfold Gs at h
 split at h
 ·next h1 =>
  rw[dp]at h;obtain⟨p,h2,_⟩:=h;have h3:=JF h2;cases s with
  |nil=>intro x hx;cases hx
  |cons y r =>
   obtain rfl:y=45:=by simpa using h1
   intro x hx;rcases aj.mp hx with rfl|hx
   ·decide
   exact h3 x hx
 rw[dp]at h;obtain⟨p,h2,_⟩:=h;exact JF h2
structure FK (w:Bytes):Prop where
 n:w ≠ []
 c:∀ x∈w,wc x=true
theorem Xq{c c':da}{w:Bytes}(h:nV c w=some c'):FK w:=by
 unfold nV at h
 split at h
 ·cases h
 next l hl =>
 have hne:w ≠ []:=by rintro rfl;cases hl
 refine⟨hne,?_⟩
 have hw:w=w.dropLast++[l]:=by
  have:=fG hne;rw[Vc hne]at hl;rw[bp hl]at this;exact this.symm
 have fin:wc l=true->(∀x∈w.dropLast,wc x=true)->∀ x∈w,wc x=true:=by
  intro h1 h2 x hx;rw[hw]at hx;rcases au.mp hx with hx|hx
  ·exact h2 x hx
  obtain rfl:x=l:=by simpa using hx
  exact h1
 split at h
 ·next e =>
  subst e
  split at h
  ·cases h
  next n hn=>exact fin (by decide) fun x hx=>qR (pW hn x hx)
 split at h
 ·next e =>
  subst e
  split at h
  ·cases h
  next n hn=>exact fin (by decide) fun x hx=>qR (pW hn x hx)
 split at h
 ·next e =>
  subst e
  split at h
  ·cases h
  next f hf=>exact fin (by decide) (VV hf)
 cases h
theorem EZ:∀ {ws:List Bytes} {c c':da},mU c ws=some c'->∀ w∈ws,FK w
 | [],_,_,_,w,h=>by cases h
 |x::l,c,c',h,w,hw=>by
  unfold mU at h
  split at h
  ·cases h
  next d hd =>
  rcases aj.mp hw with rfl|hw
  ·exact Xq hd
  exact EZ h w hw
theorem uZ{ws:List Bytes}{c:da}(h:gJ ws=some c):(∀w∈ws,FK w)∧c.words=ws:=by
 unfold gJ at h
 split at h
 ·cases h
 next d hd =>
 split at h
 ·cases h
 cases h;exact⟨EZ hd,rfl⟩
theorem sa:∀ (k:Nat) (s:Bytes),∀c∈iS k s,∃d,gJ c.words=some d∧c={d with url:=c.url}
 |0,_,c,h=>by cases h
 |k+1,s,c,h=>by
  unfold iS at h
  split at h
  ·cases h
  unfold sE at h
  split at h
  ·exact sa k _ c h
  next d hd =>
  rcases aj.mp h with rfl|h
  ·refine⟨d,?_,rfl⟩
   show gJ d.words=some d;rw[(uZ hd).2];exact hd
  exact sa k _ c h
theorem XE{w:Bytes}(h:FK w)(t:Bytes)(ht:t=[]∨∃ x r,t=x::r∧eW x=true):fR false (w++t)=w.length:=by
 rw[Af _ fun x hx=>(TP (h.c x hx)).1];rcases ht with rfl|⟨x,r,rfl,hx⟩
 ·rfl
 have h40:x≠40:=by rintro rfl;exact absurd hx (by decide)
 show w.length+(if x=40 then _ else if eW x=true then 0 else _)=_;rw[if_neg h40,if_pos hx];rfl
theorem a6a{w:Bytes}(h:FK w)(t:Bytes):(w++t).dropWhile jk=w++t:=by
 cases hw:w with
 |nil=>exact absurd hw h.n
 |cons x r =>
  have:=(TP (h.c x (by rw[hw];simp))).1.2;refine iE ?_;unfold eW at this;cases hy:jk x with
  |true=>rw[hy,Bool.or_true]at this;cases this
  |false=>rfl
theorem Fe{t:Bytes}(ht:t=[]∨∃ r,t=44::r):jY t=([],t):=by
 rw[IF]
 have e:t.dropWhile jk=t:=by
  rcases ht with rfl|⟨r,rfl⟩
  ·rfl
  exact iE (by decide)
 rw[e,if_pos];rcases ht with rfl|⟨r,rfl⟩
 ·rfl
 show(if(44:UInt8)=40 then _ else if eW 44=true then 0 else _)=_;rw[if_neg (by decide),if_pos (by decide)]
theorem Fd:∀ {ws:List Bytes} {t:Bytes},(∀w∈ws,FK w)->(t=[]∨∃ r,t=44::r)->jY (cy ws++t)=(ws,t)
 | [],t,_,ht=>Fe ht
 |w::ws,t,h,ht=>by
  have hw:=h w (by simp)
  have e1:cy (w::ws)++t=32::(w++(cy ws++t)):=by
   show([32]++w++cy ws)++t=_;simp
  have e2:(32::(w++(cy ws++t))).dropWhile jk=w++(cy ws++t):=by
   rw[aU (by decide)];exact a6a hw _
  have hn:fR false (w++(cy ws++t))=w.length:=by
   refine XE hw _ ?_;cases ws with
   |nil =>
    rcases ht with rfl|⟨r,rfl⟩
    ·exact .inl rfl
    exact .inr ⟨44,r,rfl,by decide⟩
   |cons y z=>exact .inr ⟨32,y++(cy z++t),by show([32]++y++cy z)++t=_;simp,by decide⟩
  have hl:w.length≠0:=fun e=>hw.n (ak e);rw[IF,e1,e2,hn,if_neg hl,jo rfl,yt rfl,Fd (fun x hx=>h x (by simp[hx])) ht]
def lN(url:Bytes)(ws:List Bytes):Bytes:=url++cy ws
theorem a0c{s:Bytes}(h:Fit s):∀ y∈s,eR y=true:=fun y hy=>by unfold eR;rw[h.b y hy];rfl
theorem VT{s:Bytes}(h:Fit s):lf s=false:=by
 obtain⟨q,y,e2,hy⟩:=h.e;unfold lf;rw[e2,j5];exact decide_eq_false fun h3=>hy (by simpa using h3)
theorem Tr{s:Bytes}{ws:List Bytes}{t:Bytes}(h:Fit s)(hw:∀ w∈ws,FK w)(ht:t=[]∨∃ r,t=44::32::r) :
  jb (lN s ws++t)=⟨s,ws,t.drop 1⟩:=by
 have hnb:=a0c h
 have ht':t=[]∨∃ r,t=44::r:=by
  rcases ht with rfl|⟨r,rfl⟩
  ·exact .inl rfl
  exact .inr ⟨_,rfl⟩
 unfold lN;rw[aT]
 have base:∀ u:Bytes,(u=[]∨∃ x r,u=x::r∧eR x=false)->jY u=(ws,t)->jb (s++u)=⟨s,ws,t.drop 1⟩:=by
  intro u hu hd
  have t2:(s++u).takeWhile eR=s:=by
   rw[re (p:=eR) _ hnb];rcases hu with rfl|⟨x,r,rfl,hx⟩
   ·exact aG s
   rw[aX (by rw[hx];simp),aG]
  have t3:(s++u).dropWhile eR=u:=by
   rw[sK (p:=eR) _ hnb];rcases hu with rfl|⟨x,r,rfl,hx⟩
   ·rfl
   exact iE hx
  unfold jb;rw[t2,t3,if_neg (by rw[VT h];simp),hd]
 cases hws:ws with
 |cons w ws' =>
  subst hws;exact base _ (.inr ⟨32,w++(cy ws'++t),by show([32]++w++cy ws')++t=_;simp,by decide⟩) (Fd hw ht')
 |nil =>
  subst hws;rcases ht with rfl|⟨r,rfl⟩
  ·exact base _ (.inl rfl) (Fe (.inl rfl))
  show jb (s++44::32::r)=⟨s,[],32::r⟩;have e:s++44::32::r=(s++[44])++32::r:=by simp
  have a4M:∀ y∈s++[44],eR y=true:=by
   intro y hy;rcases au.mp hy with hy|hy
   ·exact hnb y hy
   obtain rfl:y=44:=by simpa using hy
   decide
  have t2:((s++[44])++32::r).takeWhile eR=s++[44]:=by
   rw[re (p:=eR) _ a4M,aX (by decide),aG]
  have t3:((s++[44])++32::r).dropWhile eR=32::r:=by
   rw[sK (p:=eR) _ a4M];exact iE (by decide)
  have tc:g9 (s++[44])=s:=by
   obtain⟨q,y,e2,hy⟩:=h.e;unfold g9;rw[iD];show((44::s.reverse).dropWhile fun x=>decide (x=44)).reverse=s;rw[aU (by decide),e2,iD];show((y::q.reverse).dropWhile fun x=>decide (x=44)).reverse=_;rw[iE (decide_eq_false hy)];simp
  rw[e];unfold jb;rw[t2,t3,if_pos (by unfold lf;rw[j5];decide),tc]
structure LOk (url:Bytes) (ws:List Bytes) (d:da):Prop where
 f:Fit url
 d:gJ ws=some d
theorem Qx{s:Bytes}(h:Fit s)(t:Bytes):(s++t).dropWhile eW=s++t∧s++t ≠ []:=by
 obtain⟨x,r,e,hx⟩:=h.h
 have hcb:eW x=false:=by
  unfold eW;rw[h.b x (by rw[e];simp),decide_eq_false hx];rfl
 rw[e];exact⟨iE hcb,by simp⟩
theorem KJ{s:Bytes}{ws:List Bytes}{d:da}{t:Bytes}(h:LOk s ws d)(ht:t=[]∨∃ r,t=44::32::r):iG (lN s ws++t)={d with url:=s}::iG (t.drop 1):=by
 have h1:lN s ws++t=s++(cy ws++t):=by unfold lN;rw[aT]
 have h2:=Qx h.f (cy ws++t);rw[BJ,h1,h2.1,if_neg h2.2,<-h1,Tr h.f (uZ h.d).1 ht];unfold sE;dsimp only;rw[h.d]
theorem a1F(t:Bytes):iG (32::t)=iG t:=by
 rw[BJ (32::t),BJ t,aU (by decide)]
def mR(l:List (Bytes×List Bytes)):Bytes:=l.flatMap fun p=>[44,32]++lN p.1 p.2
theorem EW:∀ (l:List (Bytes×List Bytes×da)),(∀p∈l,LOk p.1 p.2.1 p.2.2)->iG ((mR (l.map fun p=>(p.1,p.2.1))).drop 1)=l.map fun p=>({p.2.2 with url:=p.1}:da)
 | [],_=>rfl
 |p::l,h=>by
  have ih:=EW l fun q hq=>h q (by simp[hq]);have hp:=h p (by simp)
  have e:(mR ((p::l).map fun p=>(p.1,p.2.1))).drop 1=32::(lN p.1 p.2.1++mR (l.map fun p=>(p.1,p.2.1))):=by
   have e1:mR ((p::l).map fun p=>(p.1,p.2.1))=([44,32]++lN p.1 p.2.1)++mR (l.map fun p=>(p.1,p.2.1)):=rfl;rw[e1];simp
  rw[e,a1F,KJ hp,ih]
  ·rfl
  cases l with
  |nil=>exact .inl rfl
  |cons q l=>exact .inr ⟨lN q.1 q.2.1++mR (l.map fun p=>(p.1,p.2.1)),by
   have e1:mR ((q::l).map fun p=>(p.1,p.2.1))=([44,32]++lN q.1 q.2.1)++mR (l.map fun p=>(p.1,p.2.1)):=rfl;rw[e1];simp⟩
theorem MB(i:eG):dQ i=lN (di i.url true) i.words:=rfl
theorem zn:∀ (l:List eG),(l.flatMap fun y=>[44,32]++dQ y)=mR (l.map fun i=>(di i.url true,i.words))
 | []=>rfl
 |i::l=>by
  have ih:=zn l;show([44,32]++dQ i)++(l.flatMap fun y=>[44,32]++dQ y)=([44,32]++lN (di i.url true) i.words)++mR (l.map fun i=>(di i.url true,i.words));rw[ih];rfl
theorem EV(D:eG->da)(l:List eG)(h:∀ i∈l,LOk (di i.url true) i.words (D i)):iG (fM l)=l.map fun i=>{D i with url:=di i.url true}:=by
 cases l with
 |nil=>rfl
 |cons i l =>
  have hr:=EW (l.map fun i=>(di i.url true,i.words,D i)) (by
   intro p hp;obtain⟨j,hj,rfl⟩:=cm.mp hp;exact h j (by simp[hj]))
  rw[gP,gP]at hr;show iG (dQ i++(l.flatMap fun y=>[44,32]++dQ y))=_;rw[MB,zn,KJ (h i (by simp))]
  ·show _::iG ((mR (l.map fun i=>(di i.url true,i.words))).drop 1)=_
   have e:(l.map fun i=>(di i.url true,i.words))=(l.map ((fun p:Bytes×List Bytes×da=>(p.1,p.2.1)) ∘ fun i=>(di i.url true,i.words,D i))):=rfl;rw[e,hr];rfl
  cases l with
  |nil=>exact .inl rfl
  |cons q l=>exact .inr ⟨lN (di q.url true) q.words++mR (l.map fun i=>(di i.url true,i.words)),by show([44,32]++lN (di q.url true) q.words)++mR (l.map fun i=>(di i.url true,i.words))=_;simp⟩

theorem Xk{l s u p:Bytes}(h:KK l=some (s,u,p)):u.length<=3*l.length∧p.length<=3*l.length:=by
 unfold KK at h;cases ha:Au l with
 |none =>
  rw[ha]at h;injection h with h
  injection h with h1 h2
  injection h2 with h2 h3
  rw[<-h2,<-h3];simp
 |some v =>
  obtain⟨who,rest⟩:=v;rw[ha]at h;dsimp only at h
  split at h
  ·cases h
  injection h with h
  injection h with h1 h2
  injection h2 with h2 h3
  have hw:who.length<=l.length:=by
   rw[(Yb ha).1];simp
  have hc:=congrArg List.length (nd 58 who);have hq:(bY 58 who).2.2=false->(bY 58 who).2.1=[]:=ij 58 _;rw[ae]at hc
  have k1:(mE who).1.length<=who.length∧(mE who).2.length<=who.length:=by
   rw[PY];dsimp only;by_cases hf:(bY 58 who).2.2=true
   ·rw[if_pos hf,ag]at hc
    omega
   rw[hq (by simpa using hf)];simp only[aN];omega
  have k2:=iw 5 (mE who).1;have k3:=iw 5 (mE who).2;rw[<-h2,<-h3];omega
theorem Po{aH s:Bytes}{a:mq}(h:kg aH s=some a):a.user.length<=3*s.length∧a.pass.length<=3*s.length∧∃ n,n.length<=s.length∧dh n (eK aH)=some a.host:=by
 rw[Jl]at h;cases hs:KK s with
 |none=>rw[hs]at h;cases h
 |some v =>
  obtain⟨s2,u,p⟩:=v;rw[hs]at h;dsimp only at h;rw[Kz]at h;have hl:=Ip hs;have hu:=Xk hs;cases hn:Oq s2 with
  |none=>rw[hn]at h;cases h
  |some v =>
   obtain⟨n,q⟩:=v;rw[hn]at h;dsimp only at h;have hnl:=Hl hn;unfold yz at h;cases hh:dh n (eK aH)with
   |none=>rw[hh]at h;cases h
   |some g =>
    rw[hh]at h;dsimp only at h;cases hq:Om aH q with
    |none=>rw[hq]at h;cases h
    |some v =>
     obtain⟨k,b⟩:=v;rw[hq]at h;injection h with h
     subst h;exact⟨hu.1,hu.2,n,by omega,hh⟩
end Go.Proofs.YtmndlfglgcioeaaGreatDoor
