/- AthW AthX PrsJ SrcB RdsA: joined. -/
import Derived.Test.YtmndlfglgcioeaaGreatDoorGAthH
import Derived.Test.YtmndlfglgcioeaaGreatDoorGNumT
import Derived.Test.YtmndlfglgcioeaaGreatDoorGSixF
import Derived.Test.YtmndlfglgcioeaaGreatDoorGHlwA
import Derived.Test.YtmndlfglgcioeaaGreatDoorGUtfD
set_option maxHeartbeats 40000000
namespace Go.Proofs.YtmndlfglgcioeaaGreatDoor
open Go.RowKit
set_option maxRecDepth 10000
theorem Ga (A:oL) (h8:A.host.six.length=8):(bD A)[0]? = some (S A.user)∧(bD A)[1]? = some (S A.pass)∧(bD A)[13]? = some (.bool A.aZ)∧(bD A)[14]? = some (.int .i64 A.port)∧(bD A)[2]? = some (.int .i64 A.host.kind):=by
 obtain⟨u,p,⟨k,nm,f,six⟩,hp,po⟩:=A
 simp only at h8
 obtain⟨b1,b2,b3,b4,b5,b6,b7,b8,rfl⟩:=eight h8
 exact⟨rfl,rfl,rfl,rfl,rfl⟩
theorem Ph (a:oL):∀ j v,(aW a.host)[j]? = some v->(bD a)[2+j]? = some v:=by
 intro j v h
 have hj:=(be.1 h).1
 rw[bY]
 unfold jj
 rw[aX,cu (by simp),cG (by simp;omega)]
 simpa using h

theorem Q9 {l s u p:Bytes} (h:Fu l=some (s,u,p)):u.length<=3*l.length∧p.length<=3*l.length:=by
 unfold Fu at h
 cases ha:xl l with
 |none =>
  rw[ha]at h
  injection h with h
  injection h with h1 h2
  injection h2 with h2 h3
  rw[<-h2,<-h3]
  simp
 |some v =>
  obtain⟨who,rest⟩:=v
  rw[ha]at h
  dsimp only at h
  split at h
  ·cases h
  injection h with h
  injection h with h1 h2
  injection h2 with h2 h3
  have hw:who.length<=l.length:=by
   rw[(Sm ha).1]
   simp
  have hc:=congrArg List.length (kR 58 who)
  have hq:(bR 58 who).2.2=false->(bR 58 who).2.1=[]:=fu 58 _
  rw[af]at hc
  have k1:(oV who).1.length<=who.length∧(oV who).2.length<=who.length:=by
   rw[KA]
   dsimp only
   by_cases hf:(bR 58 who).2.2=true
   ·rw[if_pos hf,ag]at hc
    omega
   rw[hq (by simpa using hf)]
   simp only[aQ]
   omega
  have k2:=fB 5 (oV who).1
  have k3:=fB 5 (oV who).2
  rw[<-h2,<-h3]
  omega
theorem Kc {aC s:Bytes} {a:oL} (h:jk aC s=some a):a.user.length<=3*s.length∧a.pass.length<=3*s.length∧∃ n,n.length<=s.length∧el n (ep aC)=some a.host:=by
 rw[Em]at h
 cases hs:Fu s with
 |none=>rw[hs]at h;cases h
 |some v =>
  obtain⟨s2,u,p⟩:=v
  rw[hs]at h
  dsimp only at h
  rw[Fp]at h
  have hl:=DI hs
  have hu:=Q9 hs
  cases hn:IS s2 with
  |none=>rw[hn]at h;cases h
  |some v =>
   obtain⟨n,q⟩:=v
   rw[hn]at h
   dsimp only at h
   have hnl:=Dd hn
   unfold zJ at h
   cases hh:el n (ep aC)with
   |none=>rw[hh]at h;cases h
   |some g =>
    rw[hh]at h
    dsimp only at h
    cases hq:Pe aC q with
    |none=>rw[hq]at h;cases h
    |some v =>
     obtain⟨k,b⟩:=v
     rw[hq]at h
     injection h with h
     subst h
     exact⟨hu.1,hu.2,n,by omega,hh⟩

def Lj (y:UInt8):Prop:=32<b2 y∧y≠35∧y≠63
def Na (y:UInt8):Prop:=Lj y∧y≠47∧y≠92
instance (y:UInt8):Decidable (Lj y):=by unfold Lj;infer_instance
instance (y:UInt8):Decidable (Na y):=by unfold Na;infer_instance
theorem WC {a b:Url} (h1:a.aC=b.aC) (h2:a.usr=b.usr) (h3:a.ed=b.ed) (h4:a.host=b.host) (h5:a.aZ=b.aZ) (h6:a.port=b.port) (h7:a.opq=b.opq) (h8:a.flat=b.flat) (h9:a.path=b.path) (h10:a.bP=b.bP) (h11:a.q=b.q) (h12:a.bS=b.bS) (h13:a.f=b.f):a=b:=by
 cases a;cases b;simp_all

theorem Yp (x:UInt8):b2 x=44 ↔ x=44:=by
 constructor
 ·intro h
  have:x.toNat=44:=by unfold b2 at h;omega
  exact ew.mp this
 rintro rfl;rfl
structure WOk (w:Bytes) (n:Int):Prop where
 d:∃ d,w=d++[119]∧cR d=some n∧∀ x∈d,kM x=true
 n:1<=n
theorem Ml:∀ k:Fin 256,kM (UInt8.ofNat k.val)=true->UInt8.ofNat k.val≠40∧fP (UInt8.ofNat k.val)=false:=by decide +kernel
theorem WOk.a {w:Bytes} {n:Int} (h:WOk w n):∀ x∈w,x≠40∧fP x=false:=by
 obtain⟨d,e,_,hd⟩:=h.d
 intro x hx
 rw[e,bl]at hx
 rcases hx with hx|hx
 ·exact l9 (P:=fun x=>kM x=true->x≠40∧fP x=false) Ml x (hd x hx)
 simp only[da]at hx
 subst hx
 exact⟨by decide,by decide⟩
theorem WOk.take {w:Bytes} {n:Int} (h:WOk w n):lF [w]=some {C0 with words:=[w],hw:=true,w:=n}:=by
 obtain⟨d,e,hd,_⟩:=h.d
 have h1:mI C0 w=some {C0 with hw:=true,w:=n}:=by
  unfold mI
  rw[e,lU]
  show(if(119:UInt8)=119 then _ else _)=_
  rw[if_pos rfl,a9H,hd]
  dsimp only
  rw[if_neg]
  rintro(h2|h2|h2)
  ·have:=h.n;omega
  ·cases h2
  cases h2
 unfold lF
 show(match (match mI C0 w with|none=>none|some c'=>nQ c' [])with|none=>none|some c=>_)=_
 rw[h1]
 rfl
theorem VS {y:UInt8} (h:48<=b2 y∧b2 y<=57):kM y=true:=decide_eq_true h

def gQ:Bytes:=[239,191,189]
def dI (raw:Bytes):Bytes:=raw.flatMap fun x=>if x=0 then gQ else [x]
def jz (raw:Bytes):Bytes:=fw (jH (dI raw))
def dG (b:Url) (s:Bytes) (ws:List Bytes):gG:=match mC b s with
 |none=>⟨false,U0,ws⟩
 |some u=>⟨true,u,ws⟩
structure Rd where
 items:List gG
 delay:Bytes
def rG (kind:Int) (b:Url) (s:Bytes):Rd :=
 if kind=1 then⟨[dG b s []],[]⟩
 else if kind=2 then⟨(nz s).map fun c=>dG b c.url c.words,[]⟩
 else if kind=3 then(match uU s with
  |none=>⟨[],[]⟩
  |some r=>⟨[if r.has=true then dG b r.url []else⟨true,b,[]⟩],r.delay⟩)
 else⟨[],[]⟩
theorem iT:∀ {l:Bytes},(∀x∈l,x≠0)->dI l=l
 | [],_=>rfl
 |x::r,h=>by
  show(if x=0 then gQ else [x])++dI r=_
  rw[if_neg (h x (by simp)),iT fun y hy=>h y (by simp[hy])]
  rfl
theorem mK (a b:Bytes):dI (a++b)=dI a++dI b:=dP
theorem uC:∀ l:Bytes,(dI l).length<=3*l.length
 | []=>ae _
 |x::r=>by
  have ih:=uC r
  show((if x=0 then gQ else [x])++dI r).length<=_
  rw[af,ag]
  have:(if x=0 then gQ else [x]).length<=3:=by
   split
   ·decide
   simp
  omega
theorem Lf:enc 65533=gQ:=oZ
theorem oz {l:Bytes} (h:eH l=l):∃ m,l=cf m:=⟨signs l,h.symm⟩
theorem wR {a:Bytes} (h0:∀ x∈a,x≠0∧x≠38) (h:eH a=a):jz a=a:=by
 unfold jz
 rw[iT fun x hx=>(h0 x hx).1,mT,h,qi a fun x hx=>(h0 x hx).2]
theorem val_zero {a b:Bytes} (h0:∀ x∈a,x≠0∧x≠38) (h:eH a=a) (k0:∀ x∈b,x≠0∧x≠38) (k:eH b=b):jz (a++0::b)=a++gQ++b:=by
 obtain⟨l,hl⟩:=oz h
 obtain⟨m,hm⟩:=oz k
 have e1:dI (a++0::b)=a++gQ++b:=by
  rw[mK,iT fun x hx=>(h0 x hx).1]
  show a++(gQ++dI b)=_
  rw[iT fun x hx=>(k0 x hx).1,aX]
 have e2:eH (a++gQ++b)=a++gQ++b:=by
  rw[hl,hm,Do,<-Lf]
  have:eH (enc 65533)=enc 65533:=by
   have:=lm [65533]
   simpa[cf]using this
  rw[this]
 unfold jz
 rw[e1,mT,e2]
 refine qi _ fun x hx=>?_
 simp only[bl]at hx
 rcases hx with(hx|hx)|hx
 ·exact(h0 x hx).2
 ·revert x;decide
 exact(k0 x hx).2
theorem KV {c:Int} (h:c<0∨0x80<=c):∀ y∈enc c,0x80<=b2 y:=by
 have mk:∀ n:Nat,0x80<=n->n<256->0x80<=b2 (UInt8.ofNat n):=fun n h1 h2=>by
  unfold b2
  rw[bO h2]
  omega
 by_cases hb:c<0∨0x10ffff<c∨(0xd800<=c∧c<=0xdfff)
 ·rw[xC hb]
  decide
 by_cases h1:c<0x800
 ·rw[zw (by omega) h1]
  intro y hy
  simp only[aN,ci,or_false]at hy
  rcases hy with rfl|rfl
  ·exact mk _ (by omega) (by omega)
  exact mk _ (by omega) (by omega)
 by_cases h2:c<0x10000
 ·rw[sO (by omega) h2 (by omega)]
  intro y hy
  simp only[aN,ci,or_false]at hy
  rcases hy with rfl|rfl|rfl <;>exact mk _ (by omega) (by omega)
 rw[zx (by omega) (by omega)]
 intro y hy
 simp only[aN,ci,or_false]at hy
 rcases hy with rfl|rfl|rfl|rfl <;>exact mk _ (by omega) (by omega)
theorem MV {y:UInt8} (h:0x80<=b2 y):iu y=[y]:=by
 have:qj (b2 y)=[]:=by
  unfold qj
  rw[if_neg (by omega),if_neg (by omega),if_neg (by omega),if_neg (by omega),if_neg (by omega),if_neg (by omega)]
 unfold iu
 rw[if_pos this]
theorem zG:∀ {l:Bytes},(∀y∈l,0x80<=b2 y)->fh l=l
 | [],_=>rfl
 |x::r,h=>by
  show iu x++fh r=_
  rw[MV (h x (by simp)),zG fun y hy=>h y (by simp[hy])]
  rfl
theorem zE (c:Int):∀ y∈qj c,b2 y<0x80∧y≠0:=by
 unfold qj
 repeat' split
 all_goals decide
theorem QB {x:UInt8} (h:b2 x<0x80):∀ y∈iu x,b2 y<0x80:=by
 unfold iu
 split
 ·intro y hy
  obtain rfl:y=x:=by simpa using hy
  exact h
 exact fun y hy=>(zE _ y hy).1
theorem MW {x:UInt8} (h:x≠0):∀ y∈iu x,y≠0:=by
 unfold iu
 split
 ·intro y hy
  obtain rfl:y=x:=by simpa using hy
  exact h
 exact fun y hy=>(zE _ y hy).2
theorem La {l:Bytes} (h:∀ x∈l,x≠0):∀ y∈fh l,y≠0:=by
 intro y hy
 obtain⟨x,hx,hy⟩:=lE.mp hy
 exact MW (h x hx) y hy
theorem F7 {l:Bytes} (h:∀ x∈l,b2 x<0x80):cf (l.map b2)=l:=by
 induction l with
 |nil=>rfl
 |cons x r ih =>
  show enc (b2 x)++cf (r.map b2)=_
  rw[EF (h x (by simp)),ih fun y hy=>h y (by simp[hy])]
  rfl
theorem K0 (c:Int):∃ m,fh (enc c)=cf m:=by
 by_cases h:c<0∨0x80<=c
 ·exact⟨[c],by rw[zG (KV h)];simp[cf]⟩
 have e:enc c=[UInt8.ofNat c.toNat]:=sN (by omega) (by omega)
 have hx:b2 (UInt8.ofNat c.toNat)<0x80:=by
  unfold b2
  rw[bO (by omega)]
  omega
 refine⟨(fh (enc c)).map b2,(F7 ?_).symm⟩
 rw[e]
 intro y hy
 have:fh [UInt8.ofNat c.toNat]=iu (UInt8.ofNat c.toNat):=by simp[fh]
 rw[this]at hy
 exact QB hx y hy
theorem vy:∀ l:List Int,∃m,fh (cf l)=cf m
 | []=>⟨[],rfl⟩
 |c::l=>by
  obtain⟨m1,h1⟩:=K0 c
  obtain⟨m2,h2⟩:=vy l
  refine⟨m1++m2,?_⟩
  have:fh (cf (c::l))=fh (enc c)++fh (cf l):=by
   rw[dV]
   exact dP
  rw[this,h1,h2,k9]
theorem yv {s:Bytes} (h:eH s=s) (h0:∀ x∈s,x≠0):jz (fh s)=s:=by
 obtain⟨l,hl⟩:=oz h
 obtain⟨m,hm⟩:=vy l
 unfold jz
 rw[iT (La h0),mT]
 have:eH (fh s)=fh s:=by rw[hl,hm,lm]
 rw[this,KZ]
theorem MP (n:Nat):∀ y∈mz n,b2 y<0x80∧y≠0:=by
 intro y hy
 unfold mz at hy
 rcases bl.mp hy with hy|hy
 ·rcases bl.mp hy with hy|hy
  ·simp only[aN,ci,or_false]at hy
   rcases hy with rfl|rfl <;>decide
  have:=zk n y hy
  exact⟨by omega,by rintro rfl;exact absurd this.1 (by decide)⟩
 obtain rfl:y=59:=by simpa using hy
 decide
theorem AN {l:Bytes} (h:∀ x∈l,1<=x.toNat∧x.toNat<128):jz (jR l)=l:=by
 have ha:∀ y∈jR l,b2 y<0x80∧y≠0:=by
  intro y hy
  obtain⟨x,_,hy⟩:=lE.mp hy
  exact MP _ y hy
 unfold jz
 rw[iT fun y hy=>(ha y hy).2,mT,tO _ fun y hy=>(ha y hy).1,Gu l h]
theorem Rg {l:Bytes} (h:∀ x∈l,1<=x.toNat∧x.toNat<128∧x≠38):jz l=l:=by
 refine wR (fun x hx=>⟨?_,(h x hx).2.2⟩) (tO l fun x hx=>?_)
 ·rintro rfl
  exact absurd (h 0 hx).1 (by decide)
 have:=(h x hx).2.1
 unfold b2
 omega
theorem Nr {d s:Bytes} (h:xd d) (hs:∀ x∈s,x≠39):uU (d++([59,117,114,108,61,39]++s))=some ⟨d,true,s⟩:=by
 have h1:bz (d++([59,117,114,108,61,39]++s))=d++([59,117,114,108,61,39]++s):=by
  cases hd:d with
  |nil=>exact absurd hd h.n
  |cons y r=>exact im (Mj (h.a y (by rw[hd];simp))).1
 have h2:(d++([59,117,114,108,61,39]++s)).takeWhile kM=d:=by
  rw[oD (p:=kM) _ h.a]
  show d++(59::([117,114,108,61,39]++s)).takeWhile kM=d
  rw[bd (by decide),aV]
 have h3:(d++([59,117,114,108,61,39]++s)).dropWhile kM=[59,117,114,108,61,39]++s:=by
  rw[sJ (p:=kM) _ h.a]
  exact im (by decide)
 have h4:([59,117,114,108,61,39]++s).dropWhile pd=[59,117,114,108,61,39]++s:=im (by decide)
 unfold uU Wi
 rw[h1,h2,h3,h4,if_neg (fun hh=>h.n hh.1),h.z]
 have e1:bz (59::([117,114,108,61,39]++s))=59::([117,114,108,61,39]++s):=im (by decide)
 have e2:t4 (59::([117,114,108,61,39]++s))=[117,114,108,61,39]++s:=by
  show(if(59:UInt8)=59∨(59:UInt8)=44 then bz ([117,114,108,61,39]++s)else 59::([117,114,108,61,39]++s))=_
  rw[if_pos (.inl rfl)]
  exact im (by decide)
 have e3:jy ([117,114,108,61,39]++s)=39::s:=by
  unfold jy
  have a1:(([117,114,108,61,39]++s).take 3).map dc=NU:=by
   show [dc 117,dc 114,dc 108]=NU
   decide
  have a2:bz (([117,114,108,61,39]++s).drop 3)=61::39::s:=im (by decide)
  rw[if_pos a1,a2]
  show(if(61:UInt8)=61 then bz (39::s)else _)=_
  rw[if_pos rfl]
  exact im (by decide)
 have e4:uv (39::s)=s:=by
  show(if(39:UInt8)=34∨(39:UInt8)=39 then s.takeWhile (· != 39)else 39::s)=s
  rw[if_pos (.inr rfl)]
  have:=oD (p:=(· != 39)) (d:=s) [] fun x hx=>by simpa using hs x hx
  simpa using this
 show Wj d (59::([117,114,108,61,39]++s))=_
 unfold Wj
 dsimp only
 rw[if_neg (by simp),e1,e2,if_neg (by simp),e3,e4]
theorem zl:∀ (k u:Nat),u<=k->1<=u->∃ x r,Lib.decDigits u=x::r∧x≠48
 |0,u,h1,h2=>by omega
 |k+1,u,h1,h2=>by
  by_cases h:u<10
  ·refine⟨UInt8.ofNat (48+u),[],by rw[Lib.decDigits,dif_pos h],fun e=>?_⟩
   have:=congrArg UInt8.toNat e
   rw[bO (by omega)]at this
   have h48:(48:UInt8).toNat=48:=rfl
   omega
  obtain⟨x,r,e,hx⟩:=zl k (u/10) (by omega) (by omega)
  exact⟨x,r++[UInt8.ofNat (48+u%10)],by rw[Lib.decDigits,dif_neg h,e];rfl,hx⟩
theorem vt (u:Nat):xd (Lib.decDigits u):=by
 refine⟨KE u,fun x hx=>VS (zk u x hx),?_⟩
 by_cases h:u=0
 ·subst h
  rw[Lib.decDigits_one (by omega)]
  decide
 obtain⟨x,r,e,hx⟩:=zl u u (ae _) (by omega)
 unfold kX
 have:(Lib.decDigits u).dropWhile z48=Lib.decDigits u:=by
  rw[e]
  exact im (by unfold z48;exact decide_eq_false hx)
 rw[this,if_neg (KE u)]
end Go.Proofs.YtmndlfglgcioeaaGreatDoor
