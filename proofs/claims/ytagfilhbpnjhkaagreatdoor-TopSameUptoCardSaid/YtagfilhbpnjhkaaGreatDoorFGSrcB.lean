import Derived.Test.YtagfilhbpnjhkaaGreatDoorFGNumT
import Derived.Test.YtagfilhbpnjhkaaGreatDoorFGAthH
set_option maxRecDepth 10000
set_option maxHeartbeats 0
namespace Go.Proofs.Q
open Go.RowKit
structure Fit (l:O):Prop where
 b:∀x∈l,mw x=false
 h:∃x r,l=x::r/\x≠44
 e:∃q y,l=q++[y]/\y≠44
theorem a3a(x:UInt8):G x=44 ↔ x=44:=by
 constructor
 ·intro h
  have:x.toNat=44:=by unfold G at h;omega
  exact eZ.mp this
 rintro rfl;rfl
theorem b1u(l:O):ti l=true ↔ Fit l:=by
 unfold ti;cases l with
 |nil=>exact⟨λh=>by simp at h,λh=>by obtain⟨x,r,e,_⟩:=h.h;cases e⟩
 |cons x r =>
  have g:∃q y,x::r=q++[y]:=⟨(x::r).dropLast,(x::r).getLast Oc,(ip Oc).symm⟩;obtain⟨q,y,a⟩:=g;have i:Lib.hasSuffix (x::r) [44]=decide (G y=44):=by rw[a];exact b0p y q
  rw[i,b0i];constructor
  ·intro h
   simp only[f8,a3W,gz,dl,a3a]at h;exact⟨λz c=>h.1.1.1 z c,⟨x,r,rfl,h.1.2⟩,⟨q,y,a,h.2⟩⟩
  intro h;obtain⟨x',r',e,X⟩:=h.h;obtain⟨q',y',d,hy⟩:=h.e;cases e;rw[a]at d;obtain⟨_,f⟩:=b03 d rfl;cases f;simp only[f8,a3W,gz,dl,a3a];exact⟨⟨⟨λz c=>h.b z c,rfl⟩,X⟩,hy⟩
theorem a60:∀{w:O} (t:O),(∀x∈w,x≠40/\fS x=false)->gN false (w++t)=w.length+gN false t
 | [],t,_=>by rw[f9,aO,bM]
 |x::w,t,h=>by
  rw[dE,gN,gc (h x Oc).1,gc (by rw[(h x Oc).2];simp),a60 (w:=w) t λy hy=>h y (by simp[hy]),cz];omega

def ny:O:=[239,191,189]
def dY(raw:O):O:=raw.flatMap λx=>if x=0 then ny else [x]
def jw(raw:O):O:=pl (kz (dY raw))
def ef(b:Url)(s:O)(ws:List O):eu:=match kF b s with
 |none=>⟨false,U0,ws⟩
 |some u=>⟨true,u,ws⟩
structure Rd where
 items:List eu
 delay:O
def mg(kind:Int)(b:Url)(s:O):Rd :=
 if kind=1 then⟨[ef b s []],[]⟩
 else if kind=2 then⟨(jF s).map λc=>ef b c.url c.words,[]⟩
 else if kind=3 then(match Dx s with
  |none=>⟨[],[]⟩
  |some r=>⟨[if r.has=true then ef b r.url []else⟨true,b,[]⟩],r.delay⟩)
 else⟨[],[]⟩
theorem uH:∀{l:O},(∀x∈l,x≠0)->dY l=l
 | [],_=>rfl
 |x::r,h=>by
  show(if x=0 then ny else [x])++dY r=_;rw[gc (h x Oc),uH λy hy=>h y (by simp[hy])];rfl
theorem rD(a b:O):dY (a++b)=dY a++dY b:=dL
theorem xk:∀l:O,(dY l).length<=3*l.length
 | []=>ag _
 |x::r=>by
  have ih:=xk r;show((if x=0 then ny else [x])++dY r).length<=_;rw[ae,cz]
  have:(if x=0 then ny else [x]).length<=3:=by
   split
   ·decide
   simp
  omega
theorem a85{l:O}(h:a5h l=l):∃m,l=fp m:=⟨signs l,h.symm⟩
theorem b1g{c:Int}(h:c<0\/0x80<=c):∀y∈enc c,0x80<=G y:=by
 have mk:∀n:Nat,0x80<=n->n<256->0x80<=G (UInt8.ofNat n):=λn Y I=>by
  unfold G;rw[cF I];omega
 by_cases U:c<0\/0x10ffff<c\/(0xd800<=c/\c<=0xdfff)
 ·rw[Uy U]
  decide
 by_cases Y:c<0x800
 ·rw[IE M0 Y]
  intro y hy;simp only[aK,cV,or_false]at hy;rcases hy with rfl|rfl
  ·exact mk _ M0 M0
  exact mk _ M0 M0
 by_cases I:c<0x10000
 ·rw[yn M0 I M0]
  intro y hy;simp only[aK,cV,or_false]at hy;rcases hy with rfl|rfl|rfl <;>exact mk _ M0 M0
 rw[D6 M0 M0];intro y hy;simp only[aK,cV,or_false]at hy;rcases hy with rfl|rfl|rfl|rfl <;>exact mk _ M0 M0
theorem b1V{y:UInt8}(h:0x80<=G y):Dh y=[y]:=by
 have:z6 (G y)=[]:=by
  unfold z6;rw[gc M0,gc M0,gc M0,gc M0,gc M0,gc M0]
 unfold Dh;rw[ge this]
theorem a7D:∀{l:O},(∀y∈l,0x80<=G y)->qM l=l
 | [],_=>rfl
 |x::r,h=>by
  show Dh x++qM r=_;rw[b1V (h x Oc),a7D λy hy=>h y (by simp[hy])];rfl
theorem a7C(c:Int):∀y∈z6 c,G y<0x80/\y≠0:=by
 unfold z6
 repeat' split
 all_goals decide
theorem a9X{x:UInt8}(h:G x<0x80):∀y∈Dh x,G y<0x80:=by
 unfold Dh
 split
 ·intro y hy
  obtain rfl:y=x:=by simpa using hy
  exact h
 exact λy hy=>(a7C _ y hy).1
theorem b1W{x:UInt8}(h:x≠0):∀y∈Dh x,y≠0:=by
 unfold Dh
 split
 ·intro y hy
  obtain rfl:y=x:=by simpa using hy
  exact h
 exact λy hy=>(a7C _ y hy).2
theorem a7F{l:O}(h:∀x∈l,x≠0):∀y∈qM l,y≠0:=by
 intro y hy;obtain⟨x,X,hy⟩:=S8.mp hy;exact b1W (h x X) y hy
theorem b0c{l:O}(h:∀x∈l,G x<0x80):fp (l.map G)=l:=by
 induction l with
 |nil=>rfl
 |cons x r a =>
  show enc (G x)++fp (r.map G)=_;rw[a2F (h x Oc),a λy hy=>h y (by simp[hy])];rfl
theorem b1j(c:Int):∃m,qM (enc c)=fp m:=by
 by_cases h:c<0\/0x80<=c
 ·exact⟨[c],by rw[a7D (b1g h)];simp[fp]⟩
 have e:enc c=[UInt8.ofNat c.toNat]:=ID M0 M0
 have X:G (UInt8.ofNat c.toNat)<0x80:=by
  unfold G;rw[cF M0];omega
 refine⟨(qM (enc c)).map G,(b0c ?_).symm⟩;rw[e];intro y hy;have:qM [UInt8.ofNat c.toNat]=Dh (UInt8.ofNat c.toNat):=by simp[qM]
 rw[this]at hy;exact a9X X y hy
theorem a6K:∀l:List Int,∃m,qM (fp l)=fp m
 | []=>⟨[],rfl⟩
 |c::l=>by
  obtain⟨m1,Y⟩:=b1j c;obtain⟨m2,I⟩:=a6K l;refine⟨m1++m2,?_⟩
  have:qM (fp (c::l))=qM (enc c)++qM (fp l):=by
   rw[mH];exact dL
  rw[this,Y,I,a4o]
theorem b2O{s:O}(h:a5h s=s)(a:∀x∈s,x≠0):jw (qM s)=s:=by
 obtain⟨l,c⟩:=a85 h;obtain⟨m,hm⟩:=a6K l;unfold jw;rw[uH (a7F a),Uq];have:a5h (qM s)=qM s:=by rw[c,hm,a82]
 rw[this,a9h]

def LB(a:qj):Url:={U0 with usr:=a.user,ib:=a.pass,host:=a.host,bz:=a.bz,port:=a.port}
theorem b3u{a:qj}(h:a.host.kind≠0):dA (LB a) false=58::47::47::BJ a:=by
 unfold dA ld;rw[gc (show ¬(LB a).host.kind=0 from h)];have c:nh (LB a)=[]:=rfl;have d:qF (LB a)=[]:=rfl;have e:Nc (LB a) false=[]:=rfl
 have f:uf (LB a)=a6y a:=by
  unfold uf a6y;show(if a.user=[]/\a.pass=[]then []else if a.pass=[]then a.user++[64]else a.user++[58]++a.pass++[64])=_;by_cases Y:a.user=[]/\a.pass=[]
  ·rw[ge Y,ge Y]
  rw[gc Y,gc Y];by_cases I:a.pass=[]
  ·rw[ge I,ge I,aV]
  rw[gc I,gc I];simp
 have g:yS (LB a)=a3Q a:=by
  unfold yS a3Q;rfl
 rw[c,d,e,f,g];show []++[58]++([47,47]++a6y a++lJ a.host++a3Q a)++[]++[]++[]=_;unfold BJ;simp
theorem Ko(a:qj)(c:a.host.six.length=8):(bU a)[0]?= some (S a.user)/\(bU a)[1]?= some (S a.pass)/\(bU a)[13]?= some (.bool a.bz)/\(bU a)[14]?= some (.int .i64 a.port)/\(bU a)[2]?= some (.int .i64 a.host.kind):=by
 obtain⟨u,p,⟨k,nm,f,six⟩,hp,po⟩:=a;simp only at c;obtain⟨b1,G,b3,b4,b5,b6,b7,b8,rfl⟩:=eight c;exact⟨rfl,rfl,rfl,rfl,rfl⟩
theorem Uf(a:qj):∀j v,(aS a.host)[j]?= some v->(bU a)[2+j]?= some v:=by
 intro j v h;have hj:=(bh.1 h).1;rw[cf];unfold kq;rw[bB,dB Oc,cX (by simp;omega)]
 simpa using h

def Pi(y:UInt8):Prop:=32<G y/\y≠35/\y≠63
def Rq(y:UInt8):Prop:=Pi y/\y≠47/\y≠92
instance (y:UInt8):Decidable (Pi y):=by unfold Pi;infer_instance
instance (y:UInt8):Decidable (Rq y):=by unfold Rq;infer_instance
theorem a3K{P:UInt8->Prop} [DecidablePred P] (h:∀k:Fin 256,P (UInt8.ofNat k.val)) (y:UInt8):P y:=by
 have:=h ⟨y.toNat,y.toNat_lt⟩
 simpa only[dN]using this
theorem b30:∀k:Fin 256,k6 5 (G (UInt8.ofNat k.val))=false->Rq (UInt8.ofNat k.val):=by decide +kernel
theorem b3Z:∀k:Fin 256,k6 4 (G (UInt8.ofNat k.val))=false->Pi (UInt8.ofNat k.val):=by decide +kernel
theorem b3W:∀k:Fin 256,k6 3 (G (UInt8.ofNat k.val))=false->32<G (UInt8.ofNat k.val)/\UInt8.ofNat k.val≠35:=by decide +kernel
theorem b3V:∀k:Fin 256,k6 2 (G (UInt8.ofNat k.val))=false->32<G (UInt8.ofNat k.val)/\UInt8.ofNat k.val≠35:=by decide +kernel
theorem b3U:∀k:Fin 256,k6 1 (G (UInt8.ofNat k.val))=false->32<G (UInt8.ofNat k.val):=by decide +kernel
theorem b3S:∀k:Fin 256,k6 0 (G (UInt8.ofNat k.val))=false->32<=G (UInt8.ofNat k.val):=by decide +kernel
theorem b3N:∀k:Fin 256,np (G (UInt8.ofNat k.val))=false->UInt8.ofNat k.val≠35/\UInt8.ofNat k.val≠63/\UInt8.ofNat k.val≠47/\UInt8.ofNat k.val≠92/\UInt8.ofNat k.val≠124/\UInt8.ofNat k.val≠58:=by decide +kernel
theorem b3O:∀k:Fin 256,48<=G (UInt8.ofNat k.val)/\G (UInt8.ofNat k.val)<=57->Rq (UInt8.ofNat k.val):=by decide +kernel
theorem b32:∀k:Fin 256,pr (G (UInt8.ofNat k.val))=true->32<G (UInt8.ofNat k.val):=by decide +kernel
theorem b1J{y:UInt8}(h:k6 5 (G y)=false):Rq y:=a3K (P:=λy=>k6 5 (G y)=false->Rq y) b30 y h
theorem b1A{y:UInt8}(h:k6 4 (G y)=false):Pi y:=a3K (P:=λy=>k6 4 (G y)=false->Pi y) b3Z y h
theorem b3g{y:UInt8}(h:k6 3 (G y)=false):32<G y/\y≠35:=a3K (P:=λy=>k6 3 (G y)=false->32<G y/\y≠35) b3W y h
theorem b3f{y:UInt8}(h:k6 2 (G y)=false):32<G y/\y≠35:=a3K (P:=λy=>k6 2 (G y)=false->32<G y/\y≠35) b3V y h
theorem b3e{y:UInt8}(h:k6 1 (G y)=false):32<G y:=a3K (P:=λy=>k6 1 (G y)=false->32<G y) b3U y h
theorem b1z{y:UInt8}(h:k6 0 (G y)=false):32<=G y:=a3K (P:=λy=>k6 0 (G y)=false->32<=G y) b3S y h
theorem a7T{y:UInt8}(h:np (G y)=false):y≠35/\y≠63/\y≠47/\y≠92/\y≠124/\y≠58:=a3K (P:=λy=>np (G y)=false->y≠35/\y≠63/\y≠47/\y≠92/\y≠124/\y≠58) b3N y h
theorem b29{y:UInt8}(h:48<=G y/\G y<=57):Rq y:=a3K (P:=λy=>48<=G y/\G y<=57->Rq y) b3O y h
theorem b2G{y:UInt8}(h:pr (G y)=true):32<G y:=a3K (P:=λy=>pr (G y)=true->32<G y) b32 y h
theorem a6l:∀k:Fin 16,Rq (vE k.val):=by decide +kernel
theorem b0H(u:Nat):∀y∈gg u,Rq y:=by
 induction u using Nat.strongRecOn with
 |ind u a =>
  intro y hy;by_cases h:u<16
  ·rw[b6U h]at hy
   obtain rfl:y=vE u:=by simpa using hy
   exact a6l ⟨u,h⟩
  rw[IQ h]at hy;rcases bO.mp hy with hy|hy
  ·exact a (u/16) M0 y hy
  obtain rfl:y=vE (u%16):=by simpa using hy
  exact a6l ⟨u%16,M0⟩
theorem b0X(a:List Int):∀y∈uc a,Rq y:=by
 intro y hy;unfold uc iU at hy;obtain⟨t,_,hy⟩:=S8.mp hy;unfold rj at hy
 split at hy
 ·obtain rfl:y=58:=by simpa using hy
  decide
 split at hy
 ·obtain rfl:y=58:=by simpa using hy
  decide
 exact b0H _ y hy
theorem a5b{s:O}{sp:Bool}{h:gF}(e:fm s sp=some h):∀y∈lJ h,Rq y:=by
 intro y hy;by_cases a:h.kind=4
 ·rw[a50 h a]at hy
  simp only[bO,dS]at hy;rcases hy with(rfl|hy)|rfl
  ·decide
  ·exact b0X _ y hy
  decide
 obtain⟨Y,_,c⟩:=(a3P e).2.1 a y hy;have:=a7T c;exact⟨⟨Y,this.1,this.2.1⟩,this.2.2.1,this.2.2.2.1⟩
theorem a3U{s:O}{sp:Bool}{h:gF}(e:fm s sp=some h):h.kind≠0:=by
 cases hkind e with
 |six a h8 ha c=>simp
 |name n e c hd hn U he=>simp
 |four n e c h=>simp
 |empty e h=>simp
 |a0z e c h U=>simp
theorem a6L{s:O}{h:gF}(e:fm s true=some h):h.kind≠1:=by
 intro c
 have key:∀sp:Bool,sS s sp h->sp=false:=by
  intro sp hK;cases hK with
  |six a h8 ha d=>simp at c
  |name n e d hd hn U he=>simp at c
  |four n e d h=>simp at c
  |empty _ _=>assumption
  |a0z e d h U=>simp at c
 cases key true (hkind e)
theorem a81{aJ:O}{a:qj}(ok:X6 aJ a):∀y∈a3Q a,Rq y:=by
 intro y hy;unfold a3Q at hy
 split at hy
 ·next hp =>
  rcases aK.mp hy with rfl|hy
  ·decide
  rcases ok.q with⟨c,_⟩|⟨_,q2,_⟩
  ·rw[c]at hp;cases hp
  have e:Lib.itoa a.port=Lib.decDigits a.port.toNat:=by unfold Lib.itoa;rw[gc M0]
  rw[e]at hy;exact b29 (a2c _ y hy)
 cases hy
theorem a6A{aJ:O}{a:qj}(ok:X6 aJ a):∀y∈BJ a,Rq y:=by
 intro y hy;obtain⟨n,hh,_⟩:=ok.h;obtain⟨x,X⟩:=ok.u;obtain⟨z,c⟩:=ok.p;have hu:∀y∈a.user,Rq y:=λy hy=>by rw[X]at hy;exact b1J (a66 y hy)
 have hp:∀y∈a.pass,Rq y:=λy hy=>by rw[c]at hy;exact b1J (a66 y hy)
 unfold BJ at hy;rcases bO.mp hy with hy|hy
 ·rcases bO.mp hy with hy|hy
  ·unfold a6y at hy
   split at hy
   ·cases hy
   rcases bO.mp hy with hy|hy
   ·rcases bO.mp hy with hy|hy
    ·exact hu y hy
    split at hy
    ·cases hy
    rcases aK.mp hy with rfl|hy
    ·decide
    exact hp y hy
   obtain rfl:y=64:=by simpa using hy
   decide
  exact a5b hh y hy
 exact a81 ok y hy
theorem a6v{y:UInt8}(h:Rq y)(sp:Bool):lS sp y=false:=by
 unfold lS;have Y:(y==47)=false:=by simpa using h.2.1
 have I:(y==92)=false:=by simpa using h.2.2
 rw[Y,I];cases sp <;>rfl
theorem a6T{sp:Bool}:∀{l:List O},(∀x∈l,Bk sp x)->∀y∈cH l,Pi y
 | [],_,y,hy=>by cases hy
 |p::r,h,y,hy=>by
  unfold cH at hy;rcases bO.mp hy with hy|hy
  ·rcases bO.mp hy with hy|hy
   ·obtain rfl:y=47:=by simpa using hy
    decide
   have e:=(h p Oc).e;rw[<-e]at hy;exact b1A (Zr enc4 y hy).1
  exact a6T (λx X=>h x (by simp[X])) y hy
theorem a06{a b:Url}(Y:a.aJ=b.aJ)(I:a.usr=b.usr)(h3:a.ib=b.ib)(h4:a.host=b.host)(h5:a.bz=b.bz)(h6:a.port=b.port)(h7:a.opq=b.opq)(h8:a.flat=b.flat)(h9:a.path=b.path)(h10:a.bZ=b.bZ)(h11:a.q=b.q)(h12:a.cg=b.cg)(h13:a.f=b.f):a=b:=by
 cases a;cases b;simp_all
def a3L(u:Url):O:=ld u++nh u
theorem a36{u:Url}(c:u.host.kind≠0):ld u=47::47::BJ (Ie u):=by
 have h:=b3u (a:=Ie u) c;unfold dA at h;have d:nh (LB (Ie u))=[]:=rfl;have e:qF (LB (Ie u))=[]:=rfl;have f:Nc (LB (Ie u)) false=[]:=rfl;rw[d,e,f]at h
 have g:ld (LB (Ie u))=ld u:=by
  unfold ld;rw[gc (show ¬(LB (Ie u)).host.kind=0 from c),gc c];rfl
 rw[g]at h;have I:[]++[58]++ld u++[]++[]++[]=58::47::47::BJ (Ie u):=h;simp only[f9,aV,a4p]at I;injection I
theorem a57(u:Url):dA u true=u.aJ++[58]++a3L u++(if u.bZ=true then 63::u.q else [])++(if u.cg=true then 35::u.f else []):=by
 unfold dA a3L qF Nc;rw[nk,bB (u.aJ++[58]) (ld u) (nh u)];rfl
theorem b37{l:O}(h:∀y∈l,Pi y):(35:UInt8)∉l/\(63:UInt8)∉l:=⟨λhm=>(h _ hm).2.1 rfl,λhm=>(h _ hm).2.2 rfl⟩
theorem b0U{u:Url}(g:Good u)(i:u.opq=false):∀y∈a3L u,Pi y:=by
 have hp:nh u=cH u.path:=by unfold nh;rw[i];rfl
 have c:∀y∈nh u,Pi y:=by rw[hp];exact a6T g.pc
 have key:∀{aJ:O},X6 aJ (Ie u)->∀y∈a3L u,Pi y:=by
  intro aJ f y hy;obtain⟨n,hh,_⟩:=f.h;unfold a3L at hy;rw[a36 (u:=u) (a3U hh)]at hy;rcases bO.mp hy with hy|hy
  ·rcases aK.mp hy with rfl|hy
   ·decide
   rcases aK.mp hy with rfl|hy
   ·decide
   exact(a6A f y hy).1
  exact c y hy
 cases g.body with
 |opq Y=>rw[i]at Y;cases Y
 |none Y I a d j =>
  intro y hy;unfold a3L at hy;rcases bO.mp hy with hy|hy
  ·have e:ld u=Fq u:=by unfold ld;rw[ge (by rw[a];rfl)]
   rw[e]at hy;unfold Fq at hy
   split at hy
   ·simp only[aK,cV,or_false]at hy
    rcases hy with rfl|rfl <;>decide
   cases hy
  exact c y hy
 |asked Y l f j=>exact key f
 |file Y l a d j =>
  intro y hy
  have k:u.host.kind≠0:=by
   rcases a with a|⟨n,_,a,_⟩
   ·rw[a];simp
   exact a3U a
  unfold a3L at hy;rw[a36 k]at hy
  have hw:BJ (Ie u)=lJ u.host:=by
   unfold BJ a6y a3Q;show(if u.usr=[]/\u.ib=[]then _ else _)++_++(if u.bz=true then _ else _)=_;rw[ge ⟨d.u,d.p⟩,gc (by rw[d.h];simp)];simp[Ie]
  rw[hw]at hy;rcases bO.mp hy with hy|hy
  ·rcases aK.mp hy with rfl|hy
   ·decide
   rcases aK.mp hy with rfl|hy
   ·decide
   rcases a with a|⟨n,_,a,_⟩
   ·rw[a]at hy
    cases hy
   exact(a5b a y hy).1
  exact c y hy
theorem b0Y{u:Url}(g:Good u):fw (eN (dA u true))=⟨true,u.aJ,a3L u,u.bZ,u.q,u.cg,u.f⟩:=by
 have n:∀y∈u.q,32<G y/\y≠35:=by
  intro y hy;have e:=g.qe;rw[<-e]at hy;unfold Wh at hy
  split at hy
  ·exact b3g (Zr enc3 y hy).1
  exact b3f (Zr enc2 y hy).1
 have s:∀y∈u.f,32<G y:=by
  intro y hy;have e:=g.fe;rw[<-e]at hy;exact b3e (Zr enc1 y hy).1
 have o:((35:UInt8)∉a3L u/\(63:UInt8)∉a3L u)/\(∀y∈a3L u,32<=G y)/\∀y,(a3L u).getLast? = some y->¬G y<=32:=by
  cases d:u.opq with
  |false =>
   have:=b0U g d;refine⟨b37 this,λy hy=>by have:=(this y hy).1;omega,λy hy=>?_⟩;have:=(this y (a4w hy)).1;omega
  |true =>
   cases g.body with
   |none Y=>rw[d]at Y;cases Y
   |file Y=>rw[d]at Y;cases Y
   |asked Y=>rw[d]at Y;cases Y
   |opq Y I x h4 h5 r h8 B h =>
    have e:a3L u=u.flat:=by
     unfold a3L ld Fq nh;rw[ge (by rw[x];rfl),gc (by rw[d];simp),d];rfl
    rw[e];refine⟨h,λy hy=>?_,λy hy h32=>?_⟩
    ·rw[<-r]at hy
     exact b1z (Ay hy).1
    have hm:=a4w hy;rw[<-r]at hm;have:=b1z (Ay hm).1;have w:G y=32:=M0
    have:y=32:=by
     have:=a3K (P:=λy=>G y=32->y=32) (by decide +kernel) y w;exact this
    rw[this]at hy;exact B hy
 have v:∀y∈u.aJ,32<G y:=λy hy=>b2G (Wb g.aJ.1 y hy);have m:u.aJ ≠ []:=λe=>by have:=g.aJ.1;rw[e]at this;cases this
 have e58:G 58=58:=P8;have e63:G 63=63:=P8;have e35:G 35=35:=P8;rw[a57,a8y]
 ·exact b12 g.aJ o.1 (λhm=>(n _ hm).2 rfl) g.q g.f
 ·intro y hy
  simp only[bO,dS]at hy;rcases hy with(((hy|rfl)|hy)|hy)|hy
  ·have:=v y hy;omega
  ·omega
  ·exact o.2.1 y hy
  ·split at hy
   ·rcases aK.mp hy with rfl|hy
    ·omega
    have:=(n y hy).1;omega
   cases hy
  split at hy
  ·rcases aK.mp hy with rfl|hy
   ·omega
   have:=s y hy;omega
  cases hy
 ·intro y hy
  cases a:u.aJ with
  |nil=>exact absurd a m
  |cons c t =>
   rw[a]at hy;simp only[dE,oI,ly]at hy;have:=v c (by rw[a];simp);rw[<-hy];omega
 intro y hy;rw[Bh]at hy
 have key:∀(b:Bool) (c:UInt8) (l:O),32<G c->(∀y∈l,32<G y)->∀z,(if b=true then c::l else []).getLast? = some z->¬G z<=32:=by
  intro b c l hc C z p
  split at p
  ·rcases aK.mp (a4w p)with rfl|hm
   ·omega
   have:=C z hm;omega
  cases p
 cases i:(if u.cg=true then 35::u.f else []).getLast? with
 |some z =>
  rw[i]at hy;simp only[a42,ly]at hy;rw[<-hy];exact key _ _ _ M0 s z i
 |none =>
  rw[i,a6F,Bh]at hy;cases j:(if u.bZ=true then 63::u.q else []).getLast? with
  |some z =>
   rw[j]at hy;simp only[a42,ly]at hy;rw[<-hy];exact key _ _ _ M0 (λy hy=>(n y hy).1) z j
  |none =>
   rw[j,a6F,Bh]at hy;cases k:(a3L u).getLast? with
   |some z =>
    rw[k]at hy;simp only[a42,ly]at hy;rw[<-hy];exact o.2.2 z k
   |none =>
    rw[k,a6F,Bh]at hy;simp only[a6B,a42,ly]at hy;rw[<-hy];omega
theorem a87{u:Url}(g:Good u)(rest:O):dp u.aJ ⟨true,u.aJ,rest,u.bZ,u.q,u.cg,u.f⟩={U0 with aJ:=u.aJ,bZ:=u.bZ,q:=u.q,cg:=u.cg,f:=u.f}:=by
 unfold dp;have Y:=g.qe;have I:=g.fe;unfold Wh at Y;dsimp only;rw[Y,I]
theorem b08{u u0:Url}(g:Good u)(i:u.opq=false)(d:X6 u.aJ (Ie u))(hp:eU u.aJ=true->u.path ≠ [])(e0:u0={U0 with aJ:=u.aJ,bZ:=u.bZ,q:=u.q,cg:=u.cg,f:=u.f}) :
  jS u0 (BJ (Ie u)++cH u.path)=some u:=by
 unfold jS;have es:u0.aJ=u.aJ:=by rw[e0]
 rw[es,a9c (λy hy=>a6v (a6A d y hy) _) (a6o u.path)];dsimp only;rw[a64 d];dsimp only
 have c:(if eU u.aJ=true\/cH u.path ≠ []then gW u.aJ (cH u.path)else u0.path)=u.path:=by
  by_cases a:u.path=[]
  ·have j:eU u.aJ=false:=by
    cases h:eU u.aJ with
    |false=>rfl
    |true=>exact absurd a (hp h)
   rw[gc (by rw[j,a];simp[cH]),e0,a];rfl
  rw[ge (.inr λe=>a (b0M.mp e)),a6p g.pc g.fi a]
 rw[c,e0]
 congr 1
 exact a06 rfl rfl rfl rfl rfl rfl i.symm (g.fl i).symm rfl rfl rfl rfl rfl
theorem b3v{sp:Bool}{t:O}(h:∀y,t.head? = some y->lS sp y=false):uE sp (47::47::t)=2:=by
 unfold uE;rw[bJ (a6x sp),bJ (a6x sp)];cases t with
 |nil=>rfl
 |cons c r =>
  rw[bI (by rw[h c rfl];simp)];rfl
theorem b4a{sp:Bool}{t:O}:2<=uE sp (47::47::t):=by
 unfold uE;rw[bJ (a6x sp),bJ (a6x sp)];simp
theorem a83{u:Url}(g:Good u)(b:Url):eL b (fw (eN (dA u true)))=some u:=by
 rw[b0Y g];have k:=a87 g (a3L u);generalize D:(⟨true,u.aJ,a3L u,u.bZ,u.q,u.cg,u.f⟩:kW)=p at *;have C:p.gR=true:=by rw[<-D]
 have i:p.aJ=u.aJ:=by rw[<-D]
 have Q:p.rest=a3L u:=by rw[<-D]
 have p4:p.bZ=u.bZ:=by rw[<-D]
 have p5:p.cg=u.cg:=by rw[<-D]
 unfold eL;have B:u.opq=false->nh u=cH u.path:=λh=>by unfold nh;rw[h];rfl
 cases g.body with
 |file Y T a d N =>
  rw[ge (.inl ⟨C,by rw[i];exact T⟩)]
  have hk:u.host.kind≠0:=by
   rcases a with a|⟨n,_,a,_⟩
   ·rw[a];simp
   exact a3U a
  have hw:BJ (Ie u)=lJ u.host:=by
   unfold BJ a6y a3Q;show(if u.usr=[]/\u.ib=[]then _ else _)++_++(if u.bz=true then _ else _)=_;rw[ge ⟨d.u,d.p⟩,gc (by rw[d.h];simp)];simp[Ie]
  have j:p.rest=47::47::(lJ u.host++cH u.path):=by
   rw[Q];unfold a3L;rw[a36 hk,hw,B Y];rfl
  unfold lG;dsimp only;rw[<-T,k,j,ge b4a];show iy _ (lJ u.host++cH u.path)=some u
  have hpl:∀y∈lJ u.host,Rq y:=by
   rcases a with a|⟨n,_,a,_⟩
   ·rw[a];intro y hy;cases hy
   exact a5b a
  unfold iy;rw[a9c (λy hy=>a6v (hpl y hy) _) (a6o u.path)];dsimp only;have M:=a6p g.pc g.fi N
  have hdr:dJ (lJ u.host)=false:=by
   rcases a with a|⟨n,_,a,_⟩
   ·rw[a];rfl
   cases hd:dJ (lJ u.host)with
   |false=>rfl
   |true =>
    exfalso;cases hh:lJ u.host with
    |nil=>rw[hh]at hd;cases hd
    |cons x r =>
     cases r with
     |nil=>rw[hh]at hd;cases hd
     |cons y r2 =>
      cases r2 with
      |cons z r3=>rw[hh]at hd;cases hd
      |nil =>
       rw[hh]at hd;unfold dJ at hd;rw[f8]at hd;by_cases L:u.host.kind=4
       ·rw[a50 _ L]at hh
        have:x=91:=by
         simp only[dE]at hh;injection hh with hh _
         exact hh.symm
        rw[this]at hd;revert hd;intro hd;exact absurd hd.1 P8
       have U:=a7T ((a3P a).2.1 L y (by rw[hh];simp)).2.2;have:=hd.2;simp only[kj,beq_iff_eq]at this;rcases this with e|e
       ·exact U.2.2.2.2.2 e
       exact U.2.2.2.2.1 e
  rw[gc (by rw[hdr];simp)];rcases a with a|⟨n,hn,a,w⟩
  ·rw[ge (by rw[a];rfl),M]
   congr 1
   exact a06 rfl d.u.symm d.p.symm a.symm d.h.symm d.n.symm Y.symm (g.fl Y).symm rfl rfl rfl rfl rfl
  have hne:lJ u.host ≠ []:=λe=>a6L a ((a3P a).2.2.mp e);rw[gc hne,(a3P a).1];dsimp only;rw[gc (show ¬(u.host.kind=2/\u.host.name=[108,111,99,97,108,104,111,115,116])from w),M]
  congr 1
  exact a06 rfl d.u.symm d.p.symm rfl d.h.symm d.n.symm Y.symm (g.fl Y).symm rfl rfl rfl rfl rfl
 |opq Y I a h4 d h7 R h9 h10 =>
  have m:u.aJ≠aR:=λe=>by rw[e,vn]at I;cases I
  rw[gc (by rw[C,i];simp[m]),gc (by rw[i,I];simp),ge ⟨C,by rw[i,I];simp⟩]
  have e:a3L u=u.flat:=by
   unfold a3L ld Fq nh;rw[ge (by rw[a];rfl),gc (by rw[Y];simp),Y];rfl
  unfold gi;rw[i,k,Q,e]
  split
  ·next r j=>rw[j]at R;exact absurd rfl R
  ·next r _ j=>rw[j]at R;exact absurd rfl R
  dsimp only;rw[h7,gc (λh=>h9 h.2)]
  congr 1
  exact a06 rfl d.u.symm d.p.symm a.symm d.h.symm d.n.symm Y.symm rfl h4.symm rfl rfl rfl rfl
 |none Y I a d N =>
  have m:u.aJ≠aR:=λe=>by rw[e,vn]at I;cases I
  rw[gc (by rw[C,i];simp[m]),gc (by rw[i,I];simp),ge ⟨C,by rw[i,I];simp⟩];unfold gi;have J:ld u=Fq u:=by unfold ld;rw[ge (by rw[a];rfl)]
  obtain⟨x,l,w⟩:∃x l,u.path=x::l:=by
   cases hp:u.path with
   |nil=>exact absurd hp N
   |cons x l=>exact⟨x,l,rfl⟩
  have o:=g.pc;rw[w]at o;have hseg:da u.aJ [] (x++cH l)=x::l:=a6W o (λa=>absurd a m)
  have hfin:∀P:List O,P=u.path->some {({U0 with aJ:=u.aJ,bZ:=u.bZ,q:=u.q,cg:=u.cg,f:=u.f}:Url)with path:=P}=some u:=by
   rintro P rfl
   congr 1
   exact a06 rfl d.u.symm d.p.symm a.symm d.h.symm d.n.symm Y.symm (g.fl Y).symm rfl rfl rfl rfl rfl
  by_cases hd:u.opq=false/\2<=u.path.length/\u.path.head? = some []
  ·have j:p.rest=47::46::cH u.path:=by
    rw[Q];unfold a3L;rw[J,B Y];unfold Fq;rw[ge hd];rfl
   rw[i,k,j];show some _=some u;refine hfin _ ?_
   have W:gE (eU u.aJ) (46::cH u.path)=[46]::u.path:=by
    have:=a76 (sp:=eU u.aJ) (p:=[46]) (λy hy=>by rw[dS.mp hy,I];rfl) (x++cH l);have e2:gE (eU u.aJ) (x++cH l)=x::l:=a56 x l (λq N y hy=>(o q N).s y hy);rw[w];show gE (eU u.aJ) ([46]++(47::(x++cH l)))=_;rw[this,e2]
   unfold da;rw[W,w];show kH u.aJ (kT u.aJ [] [46] false) (x::l)=x::l
   have e3:kT u.aJ [] [46] false=[]:=by
    unfold kT;rw[gc P8,ge P8];rfl
   rw[e3];have:=a5f (aJ:=u.aJ) (x::l) [] o (λ_ _ a=>absurd a m);rw[this,f9]
  have j:p.rest=47::(x++cH l):=by
   rw[Q];unfold a3L;rw[J,B Y];unfold Fq;rw[gc hd,w];rfl
  have X:∀r,x++cH l≠47::r:=by
   intro r e;cases x with
   |nil =>
    cases l with
    |nil=>cases e
    |cons y l2=>exact hd ⟨Y,by rw[w];simp,by rw[w];rfl⟩
   |cons c t =>
    injection e with e _
    have:=(o (c::t) Oc).s c Oc;rw[e,a6x]at this;cases this
  rw[i,k,j]
  split
  ·next r e =>
   injection e with _ e
   exact absurd e (X r)
  ·next r _ e =>
   injection e with _ e
   rw[<-e];refine hfin _ ?_;rw[w];exact hseg
  next _ n2=>exact absurd rfl (n2 _)
 |asked Y T ha hp =>
  obtain⟨n,hh,_⟩:=ha.h;have hk:u.host.kind≠0:=a3U hh
  have j:p.rest=47::47::(BJ (Ie u)++cH u.path):=by
   rw[Q];unfold a3L;rw[a36 hk,B Y];rfl
  rw[gc (by rw[C,i];simp[T])];have K:=b08 g Y ha hp rfl;cases v:eU u.aJ with
  |true =>
   rw[ge ⟨⟨C,by rw[i];exact v⟩,.inr (by rw[j];rfl)⟩,i,k,v,j]
   have hsl:uE true (47::47::(BJ (Ie u)++cH u.path))=2:=by
    refine b3v λy hy=>?_
    have hw:BJ (Ie u) ≠ []:=by
     intro e;unfold BJ at e;have W:=(lr.mp (lr.mp e).1).2;rw[v]at hh;exact a6L hh ((a3P hh).2.2.mp W)
    cases hc:BJ (Ie u)with
    |nil=>exact absurd hc hw
    |cons c t =>
     rw[hc]at hy;injection hy with hy
     rw[<-hy];exact a6v (a6A ha c (by rw[hc];simp)) _
   rw[hsl];exact K
  |false =>
   rw[gc (by rw[i,v];simp),ge ⟨C,by rw[i,v];simp⟩];unfold gi;rw[i,k,j];exact K
theorem RA{u:Url}(g:Good u):eF (dA u true)=some u:=by
 unfold eF;have h:=b0Y g;have e:(fw (eN (dA u true))).gR=true:=by rw[h]
 rw[ge e];exact a83 g U0

def a1X(y:UInt8):Prop:=32<=G y/\G y<=126
instance (y:UInt8):Decidable (a1X y):=by unfold a1X;infer_instance
theorem a8q:∀k:Fin 256,pr (G (UInt8.ofNat k.val))=true->a1X (UInt8.ofNat k.val):=by decide +kernel
theorem a97:∀k:Fin 256,k6 0 (G (UInt8.ofNat k.val))=false->a1X (UInt8.ofNat k.val):=by decide +kernel
theorem b0b:∀k:Fin 256,iQ (G (UInt8.ofNat k.val))=true->a1X (UInt8.ofNat k.val):=by decide +kernel
theorem b07{y:UInt8}(h:pr (G y)=true):a1X y:=a3K (P:=λy=>pr (G y)=true->a1X y) a8q y h
theorem b2l{y:UInt8}(h:k6 0 (G y)=false):a1X y:=a3K (P:=λy=>k6 0 (G y)=false->a1X y) a97 y h
theorem b2m{y:UInt8}(h:iQ (G y)=true):a1X y:=a3K (P:=λy=>iQ (G y)=true->a1X y) b0b y h
theorem a5X{set:Int}(h:Enc set){l:O}:∀y∈dD set l,a1X y:=λy hy=>⟨by have:=(Zr h y hy).2.1;omega,(Zr h y hy).2.2⟩
theorem b2n{s:O}(h:wH s=true):∀y∈s,a1X y:=by
 cases s with
 |nil=>cases h
 |cons c t =>
  unfold wH at h;rw[f8,dl]at h;intro y hy;rcases aK.mp hy with rfl|hy
  ·exact b2m h.1
  exact b07 (h.2 y hy)
theorem a7j:∀k:Fin 16,a1X (vE k.val):=by decide +kernel
theorem b2k(u:Nat):∀y∈gg u,a1X y:=by
 induction u using Nat.strongRecOn with
 |ind u a =>
  intro y hy;by_cases h:u<16
  ·rw[b6U h]at hy
   obtain rfl:y=vE u:=by simpa using hy
   exact a7j ⟨u,h⟩
  rw[IQ h]at hy;rcases bO.mp hy with hy|hy
  ·exact a (u/16) M0 y hy
  obtain rfl:y=vE (u%16):=by simpa using hy
  exact a7j ⟨u%16,M0⟩
theorem b2o(a:List Int):∀y∈uc a,a1X y:=by
 intro y hy;unfold uc iU at hy;obtain⟨t,_,hy⟩:=S8.mp hy;unfold rj at hy
 split at hy
 ·obtain rfl:y=58:=by simpa using hy
  decide
 split at hy
 ·obtain rfl:y=58:=by simpa using hy
  decide
 exact b2k _ y hy
theorem a7k{s:O}{sp:Bool}{h:gF}(e:fm s sp=some h):∀y∈lJ h,a1X y:=by
 intro y hy;by_cases a:h.kind=4
 ·rw[a50 h a]at hy
  simp only[bO,dS]at hy;rcases hy with(rfl|hy)|rfl
  ·decide
  ·exact b2o _ y hy
  decide
 obtain⟨Y,I,_⟩:=(a3P e).2.1 a y hy;exact⟨M0,I⟩
theorem b04{aJ:O}{a:qj}(ok:X6 aJ a):∀y∈a3Q a,a1X y:=by
 intro y hy;unfold a3Q at hy
 split at hy
 ·next hp =>
  rcases aK.mp hy with rfl|hy
  ·decide
  rcases ok.q with⟨c,_⟩|⟨_,q2,_⟩
  ·rw[c]at hp;cases hp
  have e:Lib.itoa a.port=Lib.decDigits a.port.toNat:=by unfold Lib.itoa;rw[gc M0]
  rw[e]at hy;have:=a2c _ y hy;exact⟨M0,M0⟩
 cases hy
theorem b26{aJ:O}{a:qj}(ok:X6 aJ a):∀y∈BJ a,a1X y:=by
 intro y hy;obtain⟨n,hh,_⟩:=ok.h;obtain⟨x,X⟩:=ok.u;obtain⟨z,c⟩:=ok.p;have hu:∀y∈a.user,a1X y:=λy hy=>by rw[X]at hy;exact a5X b3P y hy
 have hp:∀y∈a.pass,a1X y:=λy hy=>by rw[c]at hy;exact a5X b3P y hy
 unfold BJ at hy;rcases bO.mp hy with hy|hy
 ·rcases bO.mp hy with hy|hy
  ·unfold a6y at hy
   split at hy
   ·cases hy
   rcases bO.mp hy with hy|hy
   ·rcases bO.mp hy with hy|hy
    ·exact hu y hy
    split at hy
    ·cases hy
    rcases aK.mp hy with rfl|hy
    ·decide
    exact hp y hy
   obtain rfl:y=64:=by simpa using hy
   decide
  exact a7k hh y hy
 exact b04 ok y hy
theorem a7n{sp:Bool}:∀{l:List O},(∀x∈l,Bk sp x)->∀y∈cH l,a1X y
 | [],_,y,hy=>by cases hy
 |p::r,h,y,hy=>by
  unfold cH at hy;rcases bO.mp hy with hy|hy
  ·rcases bO.mp hy with hy|hy
   ·obtain rfl:y=47:=by simpa using hy
    decide
   have e:=(h p Oc).e;rw[<-e]at hy;exact a5X enc4 y hy
  exact a7n (λx X=>h x (by simp[X])) y hy
theorem b06{u:Url}(g:Good u):∀y∈a3L u,a1X y:=by
 have d:∀y∈nh u,a1X y:=by
  intro y hy;unfold nh at hy
  split at hy
  ·next c =>
   cases g.body with
   |opq Y I a h4 f k h8 h9 h10 =>
    rw[<-k]at hy;exact b2l (Ay hy).1
   |none Y=>rw[Y]at c;cases c
   |asked Y=>rw[Y]at c;cases c
   |file Y=>rw[Y]at c;cases c
  exact a7n g.pc y hy
 have key:∀{aJ:O},X6 aJ (Ie u)->∀y∈a3L u,a1X y:=by
  intro aJ i y hy;obtain⟨n,hh,_⟩:=i.h;unfold a3L at hy;rw[a36 (u:=u) (a3U hh)]at hy;rcases bO.mp hy with hy|hy
  ·rcases aK.mp hy with rfl|hy
   ·decide
   rcases aK.mp hy with rfl|hy
   ·decide
   exact b26 i y hy
  exact d y hy
 have key2:u.host=H0->∀y∈a3L u,a1X y:=by
  intro a y hy;unfold a3L at hy;rcases bO.mp hy with hy|hy
  ·have e:ld u=Fq u:=by unfold ld;rw[ge (by rw[a];rfl)]
   rw[e]at hy;unfold Fq at hy
   split at hy
   ·simp only[aK,cV,or_false]at hy
    rcases hy with rfl|rfl <;>decide
   cases hy
  exact d y hy
 cases g.body with
 |opq Y I a=>exact key2 a
 |none Y I a f j=>exact key2 a
 |asked Y m i j=>exact key i
 |file Y m a f j =>
  intro y hy
  have l:u.host.kind≠0:=by
   rcases a with a|⟨n,_,a,_⟩
   ·rw[a];simp
   exact a3U a
  unfold a3L at hy;rw[a36 l]at hy
  have hw:BJ (Ie u)=lJ u.host:=by
   unfold BJ a6y a3Q;show(if u.usr=[]/\u.ib=[]then _ else _)++_++(if u.bz=true then _ else _)=_;rw[ge ⟨f.u,f.p⟩,gc (by rw[f.h];simp)];simp[Ie]
  rw[hw]at hy;rcases bO.mp hy with hy|hy
  ·rcases aK.mp hy with rfl|hy
   ·decide
   rcases aK.mp hy with rfl|hy
   ·decide
   rcases a with a|⟨n,_,a,_⟩
   ·rw[a]at hy
    cases hy
   exact a7k a y hy
  exact d y hy
theorem a91{u:Url}(g:Good u):∀y∈dA u true,a1X y:=by
 intro y hy;rw[a57]at hy;have c:∀y∈u.q,a1X y:=λy hy=>by rw[<-g.qe]at hy;exact a5X (Sb u.aJ) y hy
 have a:∀y∈u.f,a1X y:=λy hy=>by rw[<-g.fe]at hy;exact a5X enc1 y hy
 rcases bO.mp hy with hy|hy
 ·rcases bO.mp hy with hy|hy
  ·rcases bO.mp hy with hy|hy
   ·rcases bO.mp hy with hy|hy
    ·exact b2n g.aJ.1 y hy
    obtain rfl:y=58:=by simpa using hy
    decide
   exact b06 g y hy
  split at hy
  ·rcases aK.mp hy with rfl|hy
   ·decide
   exact c y hy
  cases hy
 split at hy
 ·rcases aK.mp hy with rfl|hy
  ·decide
  exact a y hy
 cases hy

def wc(x:UInt8):Bool:=pG x||decide (x=43\/x=45\/x=46\/x=69\/x=101\/x=104\/x=119\/x=120)
theorem b5q:∀k:Fin 256,wc (UInt8.ofNat k.val)=true->(UInt8.ofNat k.val≠40/\fS (UInt8.ofNat k.val)=false)/\a1X (UInt8.ofNat k.val):=by decide +kernel
theorem b2c{x:UInt8}(h:wc x=true):(x≠40/\fS x=false)/\a1X x:=ku (P:=λx=>wc x=true->(x≠40/\fS x=false)/\a1X x) b5q x h
theorem a3y:∀k:Fin 256,¬fg (G (UInt8.ofNat k.val)) 10<0->pG (UInt8.ofNat k.val)=true:=by decide +kernel
theorem Ut{x:UInt8}(h:¬fg (G x) 10<0):pG x=true:=ku (P:=λx=>¬fg (G x) 10<0->pG x=true) a3y x h
theorem pg{s:O}{n:Int}(h:dc s=some n):∀x∈s,pG x=true:=by
 unfold dc at h
 split at h
 ·cases h
 intro x X;refine Ut λhd=>?_;rw[Hj s 0 ⟨x,X,hd⟩]at h;cases h
theorem pY{x:UInt8}(h:pG x=true):wc x=true:=by unfold wc;rw[h];rfl
theorem It(c:UInt8):∀(s:O),∀x∈s,x=c\/x∈(bQ c s).1\/x∈(bQ c s).2.1
 | [],x,h=>by cases h
 |y::r,x,h=>by
  have a:=It c r;unfold bQ;by_cases hy:y=c
  ·subst hy
   rcases aK.mp h with rfl|h
   ·exact .inl rfl
   simp;exact .inr h
  rcases aK.mp h with rfl|h
  ·simp[hy]
  rcases a x h with Y|Y|Y
  ·exact .inl Y
  ·right;left;simp[hy,Y]
  right;right;simp[hy,Y]
theorem IK{t:O}{m:Int}{p:Int×Int}(h:Cx t m=some p):∀x∈t,wc x=true:=by
 unfold Cx at h
 split at h
 ·cases h
 split at h
 ·cases h
 next n a =>
 have hd:=pg a;intro x X;rcases It 46 t x X with rfl|Y|Y
 ·decide
 ·exact pY (hd x (b5u _ Y))
 exact pY (hd x (b3X _ Y))
theorem b8O{s:O}{n:Int}(h:qO s=some n):∀x∈s,wc x=true:=by
 have hd:∀(c:UInt8),s.head? = some c->wc c=true->(∀x∈s.drop 1,wc x=true)->∀x∈s,wc x=true:=by
  intro c Y I a;cases s with
  |nil=>intro x X;cases X
  |cons y r =>
   obtain rfl:y=c:=by simpa using Y
   intro x X;rcases aK.mp X with rfl|X
   ·exact I
   exact a x X
 unfold qO at h
 split at h
 ·next Y =>
  split at h
  ·cases h
  rw[cY]at h;obtain⟨n',I,_⟩:=h;exact hd 45 Y P8 λx X=>pY (pg I x X)
 by_cases Y:s.head? = some 43
 ·rw[ge Y]at h
  split at h
  ·cases h
  exact hd 43 Y P8 λx X=>pY (pg h x X)
 rw[gc Y]at h
 split at h
 ·cases h
 exact λx X=>pY (pg h x X)
theorem IJ{t:O}{p:Int×Int}(h:sf t=some p):∀x∈t,wc x=true:=by
 unfold sf at h
 split at h
 ·exact IK h
 next e u he =>
 split at h
 ·cases h
 next m hm =>
 have Y:=b8O hm;have I:=IK h;intro x X;rw[<-List.takeWhile_append_dropWhile (p:=nE) (l:=t),he]at X;rcases bO.mp X with X|X
 ·exact I x X
 rcases aK.mp X with rfl|X
 ·obtain⟨x',r',d,c⟩:=dw_head (p:=nE) (s:=t) (by rw[he];simp)
  rw[he]at d;cases d;unfold nE isE at c
  have:x=101\/x=69:=by
   by_cases a:x=101
   ·exact .inl a
   exact .inr (by simpa[a]using c)
  rcases this with rfl|rfl <;>decide
 exact Y x X
theorem UM{s:O}{f:Flo}(h:FJ s=some f):∀x∈s,wc x=true:=by
 unfold FJ at h
 split at h
 ·next Y =>
  rw[cY]at h;obtain⟨p,I,_⟩:=h;have a:=IJ I;cases s with
  |nil=>intro x X;cases X
  |cons y r =>
   obtain rfl:y=45:=by simpa using Y
   intro x X;rcases aK.mp X with rfl|X
   ·decide
   exact a x X
 rw[cY]at h;obtain⟨p,I,_⟩:=h;exact IJ I
structure Y2 (w:O):Prop where
 n:w ≠ []
 c:∀x∈w,wc x=true
theorem Wt{c i:dk}{w:O}(h:ni c w=some i):Y2 w:=by
 unfold ni at h
 split at h
 ·cases h
 next l d =>
 have a:w ≠ []:=by rintro rfl;cases d
 refine⟨a,?_⟩
 have hw:w=w.dropLast++[l]:=by
  have:=ip a;rw[TV a]at d;rw[bj d]at this;exact this.symm
 have fin:wc l=true->(∀x∈w.dropLast,wc x=true)->∀x∈w,wc x=true:=by
  intro Y I x X;rw[hw]at X;rcases bO.mp X with X|X
  ·exact I x X
  obtain rfl:x=l:=by simpa using X
  exact Y
 split at h
 ·next e =>
  subst e
  split at h
  ·cases h
  next n g=>exact fin P8 λx X=>pY (pg g x X)
 split at h
 ·next e =>
  subst e
  split at h
  ·cases h
  next n g=>exact fin P8 λx X=>pY (pg g x X)
 split at h
 ·next e =>
  subst e
  split at h
  ·cases h
  next f j=>exact fin P8 (UM j)
 cases h
theorem DR:∀{ws:List O} {c a:dk},lU c ws=some a->∀w∈ws,Y2 w
 | [],_,_,_,w,h=>by cases h
 |x::l,c,a,h,w,hw=>by
  unfold lU at h
  split at h
  ·cases h
  next d hd =>
  rcases aK.mp hw with rfl|hw
  ·exact Wt hd
  exact DR h w hw
theorem Us{ws:List O}{c:dk}(h:jM ws=some c):(∀w∈ws,Y2 w)/\c.words=ws:=by
 unfold jM at h
 split at h
 ·cases h
 next d hd =>
 split at h
 ·cases h
 cases h;exact⟨DR hd,rfl⟩
theorem wO:∀(k:Nat) (s:O),∀c∈gL k s,∃d,jM c.words=some d/\c={d with url:=c.url}
 |0,_,c,h=>by cases h
 |k+1,s,c,h=>by
  unfold gL at h
  split at h
  ·cases h
  unfold tU at h
  split at h
  ·exact wO k _ c h
  next d hd =>
  rcases aK.mp h with rfl|h
  ·refine⟨d,?_,rfl⟩
   show jM d.words=some d;rw[(Us hd).2];exact hd
  exact wO k _ c h
theorem b2P{w:O}(h:Y2 w)(t:O)(d:t=[]\/∃x r,t=x::r/\fS x=true):gN false (w++t)=w.length:=by
 rw[a60 _ λx X=>(b2c (h.c x X)).1];rcases d with rfl|⟨x,r,rfl,X⟩
 ·rfl
 have a:x≠40:=by rintro rfl;exact absurd X P8
 show w.length+(if x=40 then _ else if fS x=true then 0 else _)=_;rw[gc a,ge X];rfl
theorem b4d{w:O}(h:Y2 w)(t:O):(w++t).dropWhile mw=w++t:=by
 cases hw:w with
 |nil=>exact absurd hw h.n
 |cons x r =>
  have:=(b2c (h.c x (by rw[hw];simp))).1.2;refine Fv ?_;unfold fS at this;cases hy:mw x with
  |true=>rw[hy,b3G]at this;cases this
  |false=>rfl
theorem a8f{t:O}(a:t=[]\/∃r,t=44::r):j7 t=([],t):=by
 rw[a1b]
 have e:t.dropWhile mw=t:=by
  rcases a with rfl|⟨r,rfl⟩
  ·rfl
  exact Fv P8
 rw[e,ge];rcases a with rfl|⟨r,rfl⟩
 ·rfl
 show(if(44:UInt8)=40 then _ else if fS 44=true then 0 else _)=_;rw[gc P8,ge P8]
theorem a8e:∀{ws:List O} {t:O},(∀w∈ws,Y2 w)->(t=[]\/∃r,t=44::r)->j7 (du ws++t)=(ws,t)
 | [],t,_,a=>a8f a
 |w::ws,t,h,a=>by
  have hw:=h w Oc
  have c:du (w::ws)++t=32::(w++(du ws++t)):=by
   show([32]++w++du ws)++t=_;simp
  have d:(32::(w++(du ws++t))).dropWhile mw=w++(du ws++t):=by
   rw[aQ P8];exact b4d hw _
  have g:gN false (w++(du ws++t))=w.length:=by
   refine b2P hw _ ?_;cases ws with
   |nil =>
    rcases a with rfl|⟨r,rfl⟩
    ·exact .inl rfl
    exact .inr ⟨44,r,rfl,P8⟩
   |cons y z=>exact .inr ⟨32,y++(du z++t),by show([32]++y++du z)++t=_;simp,P8⟩
  have f:w.length≠0:=λe=>hw.n (az e);rw[a1b,c,d,g,gc f,ko rfl,Xf rfl,a8e (λx X=>h x (by simp[X])) a]
def a3V(url:O)(ws:List O):O:=url++du ws
theorem b3b{s:O}(h:Fit s):∀y∈s,fU y=true:=λy hy=>by unfold fU;rw[h.b y hy];rfl
theorem b2u{s:O}(h:Fit s):nQ s=false:=by
 obtain⟨q,y,a,hy⟩:=h.e;unfold nQ;rw[a,Bi];exact gh λc=>hy (by simpa using c)
theorem b13{s:O}{ws:List O}{t:O}(h:Fit s)(hw:∀w∈ws,Y2 w)(i:t=[]\/∃r,t=44::32::r) :
  jt (a3V s ws++t)=⟨s,ws,t.drop 1⟩:=by
 have a:=b3b h
 have g:t=[]\/∃r,t=44::r:=by
  rcases i with rfl|⟨r,rfl⟩
  ·exact .inl rfl
  exact .inr ⟨_,rfl⟩
 unfold a3V;rw[bB]
 have base:∀u:O,(u=[]\/∃x r,u=x::r/\fU x=false)->j7 u=(ws,t)->jt (s++u)=⟨s,ws,t.drop 1⟩:=by
  intro u hu hd
  have t2:(s++u).takeWhile fU=s:=by
   rw[b7v (p:=fU) _ a];rcases hu with rfl|⟨x,r,rfl,X⟩
   ·exact aV s
   rw[bI (by rw[X];simp),aV]
  have t3:(s++u).dropWhile fU=u:=by
   rw[Fu (p:=fU) _ a];rcases hu with rfl|⟨x,r,rfl,X⟩
   ·rfl
   exact Fv X
  unfold jt;rw[t2,t3,gc (by rw[b2u h];simp),hd]
 cases d:ws with
 |cons w f =>
  subst d;exact base _ (.inr ⟨32,w++(du f++t),by show([32]++w++du f)++t=_;simp,P8⟩) (a8e hw g)
 |nil =>
  subst d;rcases i with rfl|⟨r,rfl⟩
  ·exact base _ (.inl rfl) (a8f (.inl rfl))
  show jt (s++44::32::r)=⟨s,[],32::r⟩;have e:s++44::32::r=(s++[44])++32::r:=Oc
  have c:∀y∈s++[44],fU y=true:=by
   intro y hy;rcases bO.mp hy with hy|hy
   ·exact a y hy
   obtain rfl:y=44:=by simpa using hy
   decide
  have t2:((s++[44])++32::r).takeWhile fU=s++[44]:=by
   rw[b7v (p:=fU) _ c,bI P8,aV]
  have t3:((s++[44])++32::r).dropWhile fU=32::r:=by
   rw[Fu (p:=fU) _ c];exact Fv P8
  have k:gM (s++[44])=s:=by
   obtain⟨q,y,j,hy⟩:=h.e;unfold gM;rw[jK];show((44::s.reverse).dropWhile λx=>decide (x=44)).reverse=s;rw[aQ P8,j,jK];show((y::q.reverse).dropWhile λx=>decide (x=44)).reverse=_;rw[Fv (gh hy)];simp
  rw[e];unfold jt;rw[t2,t3,ge (by unfold nQ;rw[Bi];decide),k]
structure LOk (url:O) (ws:List O) (d:dk):Prop where
 f:Fit url
 d:jM ws=some d
theorem b1t{s:O}(h:Fit s)(t:O):(s++t).dropWhile fS=s++t/\s++t ≠ []:=by
 obtain⟨x,r,e,X⟩:=h.h
 have a:fS x=false:=by
  unfold fS;rw[h.b x (by rw[e];simp),gh X];rfl
 rw[e];exact⟨Fv a,Oc⟩
theorem a92{s:O}{ws:List O}{d:dk}{t:O}(h:LOk s ws d)(a:t=[]\/∃r,t=44::32::r):jF (a3V s ws++t)={d with url:=s}::jF (t.drop 1):=by
 have Y:a3V s ws++t=s++(du ws++t):=by unfold a3V;rw[bB]
 have I:=b1t h.f (du ws++t);rw[a0U,Y,I.1,gc I.2,<-Y,b13 h.f (Us h.d).1 a];unfold tU;dsimp only;rw[h.d]
theorem b3w(t:O):jF (32::t)=jF t:=by
 rw[a0U (32::t),a0U t,aQ P8]
def a4i(l:List (O×List O)):O:=l.flatMap λp=>[44,32]++a3V p.1 p.2
theorem a8a:∀(l:List (O×List O×dk)),(∀p∈l,LOk p.1 p.2.1 p.2.2)->jF ((a4i (l.map λp=>(p.1,p.2.1))).drop 1)=l.map λp=>({p.2.2 with url:=p.1}:dk)
 | [],_=>rfl
 |p::l,h=>by
  have d:=a8a l λq c=>h q (by simp[c]);have hp:=h p Oc
  have e:(a4i ((p::l).map λp=>(p.1,p.2.1))).drop 1=32::(a3V p.1 p.2.1++a4i (l.map λp=>(p.1,p.2.1))):=by
   have a:a4i ((p::l).map λp=>(p.1,p.2.1))=([44,32]++a3V p.1 p.2.1)++a4i (l.map λp=>(p.1,p.2.1)):=rfl;rw[a];simp
  rw[e,b3w,a92 hp,d]
  ·rfl
  cases l with
  |nil=>exact .inl rfl
  |cons q l=>exact .inr ⟨a3V q.1 q.2.1++a4i (l.map λp=>(p.1,p.2.1)),by
   have a:a4i ((q::l).map λp=>(p.1,p.2.1))=([44,32]++a3V q.1 q.2.1)++a4i (l.map λp=>(p.1,p.2.1)):=rfl;rw[a];simp⟩
theorem b0L(i:eu):eS i=a3V (dA i.url true) i.words:=rfl
theorem a6N:∀(l:List eu),(l.flatMap λy=>[44,32]++eS y)=a4i (l.map λi=>(dA i.url true,i.words))
 | []=>rfl
 |i::l=>by
  have a:=a6N l;show([44,32]++eS i)++(l.flatMap λy=>[44,32]++eS y)=([44,32]++a3V (dA i.url true) i.words)++a4i (l.map λi=>(dA i.url true,i.words));rw[a];rfl
theorem a79(D:eu->dk)(l:List eu)(h:∀i∈l,LOk (dA i.url true) i.words (D i)):jF (ij l)=l.map λi=>{D i with url:=dA i.url true}:=by
 cases l with
 |nil=>rfl
 |cons i l =>
  have a:=a8a (l.map λi=>(dA i.url true,i.words,D i)) (by
   intro p hp;obtain⟨j,c,rfl⟩:=dt.mp hp;exact h j (by simp[c]))
  rw[lu,lu]at a;show jF (eS i++(l.flatMap λy=>[44,32]++eS y))=_;rw[b0L,a6N,a92 (h i Oc)]
  ·show _::jF ((a4i (l.map λi=>(dA i.url true,i.words))).drop 1)=_
   have e:(l.map λi=>(dA i.url true,i.words))=(l.map ((λp:O×List O×dk=>(p.1,p.2.1)) ∘ λi=>(dA i.url true,i.words,D i))):=rfl;rw[e,a];rfl
  cases l with
  |nil=>exact .inl rfl
  |cons q l=>exact .inr ⟨a3V (dA q.url true) q.words++a4i (l.map λi=>(dA i.url true,i.words)),by show([44,32]++a3V (dA q.url true) q.words)++a4i (l.map λi=>(dA i.url true,i.words))=_;simp⟩

theorem Wo{l s u p:O}(h:JG l=some (s,u,p)):u.length<=3*l.length/\p.length<=3*l.length:=by
 unfold JG at h;cases d:zL l with
 |none =>
  rw[d]at h;injection h with h
  injection h with Y I
  injection I with I c
  rw[<-I,<-c];simp
 |some v =>
  obtain⟨a,rest⟩:=v;rw[d]at h;dsimp only at h
  split at h
  ·cases h
  injection h with h
  injection h with Y I
  injection I with I c
  have hw:a.length<=l.length:=by
   rw[(Xj d).1];simp
  have e:=congrArg List.length (mn 58 a);have g:(bQ 58 a).2.2=false->(bQ 58 a).2.1=[]:=gm 58 _;rw[ae]at e
  have k1:(qH a).1.length<=a.length/\(qH a).2.length<=a.length:=by
   rw[Oz];dsimp only;by_cases f:(bQ 58 a).2.2=true
   ·rw[ge f,cz]at e
    omega
   rw[g (by simpa using f)];simp only[aO];omega
  have k2:=gv 5 (qH a).1;have k3:=gv 5 (qH a).2;rw[<-I,<-c];omega
theorem NT{aJ s:O}{a:qj}(h:kr aJ s=some a):a.user.length<=3*s.length/\a.pass.length<=3*s.length/\∃n,n.length<=s.length/\fm n (eU aJ)=some a.host:=by
 rw[Ii]at h;cases c:JG s with
 |none=>rw[c]at h;cases h
 |some v =>
  obtain⟨s2,u,p⟩:=v;rw[c]at h;dsimp only at h;rw[JA]at h;have hl:=G4 c;have hu:=Wo c;cases d:Ng s2 with
  |none=>rw[d]at h;cases h
  |some v =>
   obtain⟨n,q⟩:=v;rw[d]at h;dsimp only at h;have hnl:=Gx d;unfold Ct at h;cases hh:fm n (eU aJ)with
   |none=>rw[hh]at h;cases h
   |some g =>
    rw[hh]at h;dsimp only at h;cases e:Uc aJ q with
    |none=>rw[e]at h;cases h
    |some v =>
     obtain⟨k,b⟩:=v;rw[e]at h;injection h with h
     subst h;exact⟨hu.1,hu.2,n,M0,hh⟩

def fG(s:O):O:=s.map dK
def ii:List ((O×O)×Int):=[(([97],[104,114,101,102]),1),(([97,114,101,97],[104,114,101,102]),1),(([108,105,110,107],[104,114,101,102]),1),(([105,109,103],[115,114,99]),1),(([105,109,103],[108,111,110,103,100,101,115,99]),1),(([115,99,114,105,112,116],[115,114,99]),1),(([105,102,114,97,109,101],[115,114,99]),1),(([101,109,98,101,100],[115,114,99]),1),(([111,98,106,101,99,116],[100,97,116,97]),1),(([118,105,100,101,111],[115,114,99]),1),(([118,105,100,101,111],[112,111,115,116,101,114]),1),(([97,117,100,105,111],[115,114,99]),1),(([115,111,117,114,99,101],[115,114,99]),1),(([116,114,97,99,107],[115,114,99]),1),(([105,110,112,117,116],[115,114,99]),1),(([105,110,112,117,116],[102,111,114,109,97,99,116,105,111,110]),1),(([98,117,116,116,111,110],[102,111,114,109,97,99,116,105,111,110]),1),(([102,111,114,109],[97,99,116,105,111,110]),1),(([98,108,111,99,107,113,117,111,116,101],[99,105,116,101]),1),(([113],[99,105,116,101]),1),(([105,110,115],[99,105,116,101]),1),(([100,101,108],[99,105,116,101]),1),(([98,111,100,121],[98,97,99,107,103,114,111,117,110,100]),1),(([105,109,103],[115,114,99,115,101,116]),2),(([115,111,117,114,99,101],[115,114,99,115,101,116]),2),(([108,105,110,107],[105,109,97,103,101,115,114,99,115,101,116]),2),(([109,101,116,97],[99,111,110,116,101,110,116]),3)]
def jD:List ((O×O)×Int)->O×O->Int
 | [],_=>0
 |p::l,k=>if p.1=k then p.2 else jD l k
def gA(el name:O):Int:=jD ii (fG el,fG name)
def GX(x:UInt8):Bool:=decide (x=9\/x=10\/x=13\/x=32)
def fN(p:UInt8->Bool)(s:O):O:=(s.reverse.dropWhile p).reverse
def trimB(p:UInt8->Bool)(s:O):O:=fN p (s.dropWhile p)
def AZ(x:UInt8):Bool:=iQ (G x) || !(decide (fg (G x) 10<0))||decide (x∈([33,35,36,37,38,39,42,43,45,46,94,95,96,124,126]:O))
def DW(s:O):Bool:=s.all AZ && !s.isEmpty
def KR(s:O):Option O :=
 if(bQ 47 (trimB GX s)).2.2=true then
  (if DW (bQ 47 (trimB GX s)).1=true/\DW (fN GX (bQ 59 (bQ 47 (trimB GX s)).2.1).1)=true then some (fG (bQ 47 (trimB GX s)).1++[47]++fG (fN GX (bQ 59 (bQ 47 (trimB GX s)).2.1).1))else none)
 else none
def b64:O:=[98,97,115,101,54,52]
def qA(s:O):O :=
 if s.length<6\/fG (s.drop (s.length-6))≠b64 then s
 else if Lib.hasSuffix (fN (λx=>decide (x=32)) (s.take (s.length-6))) [59]=true then(fN (λx=>decide (x=32)) (s.take (s.length-6))).dropLast else s
def qI:O:=[100,97,116,97]
def mP:O:=[116,101,120,116,47,112,108,97,105,110]
def a5K(s:O):O:=(KR (if Lib.hasPrefix s [59]=true then mP++s else s)).getD mP
def b76(s p:O):O:=if Lib.hasPrefix s p=true then s.drop p.length else s
def BY(u:Url):Option O :=
 if u.aJ=qI then(if(bQ 44 (dA u false)).2.2=true then some (a5K (qA (trimB mw (b76 (bQ 44 (dA u false)).1 (qI++[58])))))else none)else none
