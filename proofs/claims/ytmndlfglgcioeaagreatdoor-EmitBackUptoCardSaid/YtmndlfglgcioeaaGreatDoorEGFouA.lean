/- Joined texts. -/
import Derived.Test.YtmndlfglgcioeaaGreatDoorEGIdnI
import Derived.Test.YtmndlfglgcioeaaGreatDoorEGNumB
set_option maxHeartbeats 40000000
namespace Go.Proofs.YtmndlfglgcioeaaGreatDoor
open Tryz
open Go.RowKit
set_option maxRecDepth 10000
def et(c:UInt8):Bytes->List Bytes
 | []=>[[]]
 |x::r=>if x=c then []::et c r else match et c r with | []=>[[x]]|p::ps=>(x::p)::ps
theorem oC(c:UInt8)(r:Bytes):et c (c::r)=[]::et c r:=by rw[et,if_pos rfl]
theorem kI(c:UInt8):∀ t,∃p ps,et c t=p::ps
 | []=>⟨_,_,rfl⟩
 |x::r=>by
  unfold et
  split
  ·exact⟨_,_,rfl⟩
  obtain⟨p,ps,h⟩:=kI c r;rw[h];exact⟨_,_,rfl⟩
theorem lh{c x:UInt8}{r p:Bytes}{ps:List Bytes}(h:x≠c)(hr:et c r=p::ps):et c (x::r)=(x::p)::ps:=by
 rw[et,if_neg h,hr]
theorem lg(c:UInt8):∀ a b:Bytes,et c (a++c::b)=et c a++et c b
 | [],b=>by rw[bJ,oC];rfl
 |x::r,b=>by
  have ih:=lg c r b;obtain⟨p,ps,h⟩:=kI c r;by_cases hx:x=c
  ·subst hx
   rw[bd,oC,oC,ih];rfl
  rw[h]at ih;rw[bd,lh hx ih,lh hx h];rfl
theorem gA{c:UInt8}{p:Bytes}(h:c∉p):et c p=[p]:=by
 induction p with
 |nil=>rfl
 |cons x r ih =>
  have hx:x≠c:=fun h2=>h (by simp[h2]);exact lh hx (ih (fun h2=>h (by simp[h2])))
theorem vy:∀ t:Bytes,et 46 t=iU t
 | []=>rfl
 |x::r=>by rw[et,iU,vy r];rfl
theorem vz(c:UInt8):∀ t:Bytes,(et c t).length<=t.length+1
 | []=>by simp[et]
 |x::r=>by
  have ih:=vz c r;obtain⟨p,ps,h⟩:=kI c r;rw[h]at ih;by_cases hx:x=c
  ·subst hx;rw[oC,h];simp at ih ⊢;omega
  rw[lh hx h];simp at ih ⊢;omega
theorem nh(c:UInt8):∀ (t p:Bytes),p∈et c t->p.length<=t.length∧c∉p∧∀ x∈p,x∈t
 | [],p,h=>by simp[et]at h;subst h;simp
 |x::r,p,h=>by
  obtain⟨q,qs,hq⟩:=kI c r;by_cases hx:x=c
  ·subst hx
   rw[oC]at h;rcases aj.mp h with rfl|h
   ·simp
   obtain⟨h1,h2,h3⟩:=nh x r p h;exact⟨by simp;omega,h2,fun y hy=>be _ (h3 y hy)⟩
  rw[lh hx hq]at h;rcases aj.mp h with rfl|h
  ·obtain⟨h1,h2,h3⟩:=nh c r q (by rw[hq];simp)
   refine⟨by simp;omega,?_,?_⟩
   ·intro hm
    rcases aj.mp hm with e|hm
    ·exact hx e.symm
    exact h2 hm
   intro y hy;rcases aj.mp hy with rfl|hy
   ·simp
   exact be _ (h3 y hy)
  obtain⟨h1,h2,h3⟩:=nh c r p (by rw[hq];exact be _ h);exact⟨by simp;omega,h2,fun y hy=>be _ (h3 y hy)⟩
def gK(b C:Int):Int->Bytes->Option Int
 |n,[]=>some n
 |n,c::t=>if fI (b2 c) b<0 then none else gK b C (min (n*b+fI (b2 c) b) C) t
def oV(C:Int):Bytes->Option Int
 | []=>none
 | [c]=>gK 10 C 0 [c]
 |c::x::t=>if c=48 then(if x=120∨x=88 then gK 16 C 0 t else gK 8 C 0 (x::t))else gK 10 C 0 (c::x::t)
theorem Kn(C:Int)(c x:UInt8)(t:Bytes):oV C (c::x::t)=if c=48 then(if x=120∨x=88 then gK 16 C 0 t else gK 8 C 0 (x::t))else gK 10 C 0 (c::x::t):=rfl
theorem vH(b C:Int)(hb:0<=b)(hC:0<=C):∀ (l:Bytes) (n v:Int),0<=n->n<=C->gK b C n l=some v->0<=v∧v<=C
 | [],n,v,h,h2,e=>by unfold gK at e;injection e with e;subst e;exact⟨h,h2⟩
 |c::t,n,v,h,_,e=>by
  unfold gK at e
  split at e
  ·cases e
  next hd =>
  have:=eD h hb;exact vH b C hb hC t _ v (by omega) (by omega) e
theorem Hn{C:Int}(hC:0<=C){s:Bytes}{v:Int}(h:oV C s=some v):0<=v∧v<=C:=by
 match s,h with
 | [],h=>cases h
 | [c],h=>exact vH 10 C (by omega) hC _ 0 v (by omega) hC h
 |c::x::t,h =>
  rw[Kn]at h
  split at h
  ·split at h
   ·exact vH 16 C (by omega) hC _ 0 v (by omega) hC h
   exact vH 8 C (by omega) hC _ 0 v (by omega) hC h
  exact vH 10 C (by omega) hC _ 0 v (by omega) hC h
def eC(s:Bytes):List Bytes:=if 1<(et 46 s).length∧(et 46 s).getLast? = some []then(et 46 s).dropLast else et 46 s
theorem lr(s:Bytes):eC s ≠ []:=by
 obtain⟨p,ps,h⟩:=kI 46 s;unfold eC;rw[h]
 split
 ·next hc =>
  intro e;have:((p::ps).dropLast).length=0:=by rw[e];rfl
  rw[gO]at this;omega
 simp
theorem M7{s p:Bytes}(h:p∈eC s):p∈et 46 s:=by
 unfold eC at h
 split at h
 ·exact ot _ h
 exact h
theorem zx(s:Bytes):(eC s).length<=s.length+1:=by
 have:=vz 46 s;unfold eC
 split
 ·rw[gO];omega
 exact this
def Ec(t:Bytes):Bool:=(oV 4294967296 t).isSome||decide (t ≠ []∧(gK 10 4294967296 0 t).isSome=true)
def rG(s:Bytes):Bool:=Ec ((eC s).getLast (lr s))
def room:Nat->Int|0=>4294967296|1=>16777216|2=>65536|3=>256|_=>1
def oJ(C:Int):Nat->Int->List Bytes->Option Int
 |_,s,[]=>some s
 |i,s,[p]=>match oV C p with|none=>none|some n=>if room i<=n then none else some (s+n)
 |i,s,p::q::t=>match oV C p with|none=>none|some n=>if 255<n then none else oJ C (i+1) (s+n*room (i+1)) (q::t)
def fpF(ps:List Bytes):Option Int:=if 4<ps.length then none else oJ 4294967296 0 0 ps
def mc(s:Bytes):Option Int:=fpF (eC s)
theorem room_le(i:Nat):1<=room i∧room i<=4294967296:=by unfold room;split <;>decide
theorem Nl{i:Nat}(h:i<4):256*room (i+1)=room i:=by
 match i,h with
 |0,_=>decide
 |1,_=>decide
 |2,_=>decide
 |3,_=>decide
theorem wn:∀ (ps:List Bytes) (i:Nat) (s v:Int),ps ≠ []->i+ps.length<=4->0<=s->s+room i<=4294967296->oJ 4294967296 i s ps=some v->0<=v∧v<4294967296
 | [],_,_,_,h,_,_,_,_=>absurd rfl h
 | [p],i,s,v,_,_,h0,h1,e=>by
  unfold oJ at e;cases h:oV 4294967296 p with
  |none=>rw[h]at e;cases e
  |some n =>
   rw[h]at e;have hn:=Hn (by decide) h;dsimp only at e
   split at e
   ·cases e
   injection e with e;omega
 |p::q::t,i,s,v,_,hl,h0,h1,e=>by
  unfold oJ at e;cases h:oV 4294967296 p with
  |none=>rw[h]at e;cases e
  |some n =>
   rw[h]at e;have hn:=Hn (by decide) h;dsimp only at e
   split at e
   ·cases e
   next hc =>
   have hi:i<4:=by simp at hl;omega
   have hs:=Nl hi;have hr:=room_le (i+1);have hm:0<=n*room (i+1):=eD hn.1 (by omega);have hm2:n*room (i+1)<=255*room (i+1):=fh (by omega) (by omega);exact wn (q::t) (i+1) _ v (by simp) (by simp at hl ⊢;omega) (by omega) (by omega) e
theorem AV{s:Bytes}{v:Int}(h:mc s=some v):0<=v∧v<4294967296:=by
 unfold mc fpF at h
 split at h
 ·cases h
 next hc=>exact wn _ 0 0 v (lr s) (by omega) (by omega) (by decide) h

abbrev a3q(o:Option Int)(k:IntKind):Ending:=.returned (.tuple #[.int k (o.getD 0),.bool o.isSome])
theorem P8(b C n:Int){l:Bytes}{k:Nat}(h:k<l.length):gK b C n (l.drop k)=if fI (b2 l[k]) b<0 then none else gK b C (min (n*b+fI (b2 l[k]) b) C) (l.drop (k+1)):=by
 rw[aq h];rfl
theorem jP(l:Bytes)(b:Int)(w:World)(hl:l.length<=1024000000)(hb:b=8∨b=10∨b=16) :
  Calls prog 214 #[.string (bs l),.int .i64 b] w fun e w'=>e=a3q (if l=[]then none else gK b 4294967296 0 l) .i64∧w'=w:=by
 obtain⟨R,hR⟩:=az (gK b 4294967296 0 l);rw[<-hR];have HR:=h_ hR;clear hR;obtain⟨s,hs⟩:=az (bs l);have hsz:s.size=l.length:=by rw[hs,aM]
 have hby:∀ k (hk:k<s.size) (hk2:k<l.length),((s[k]'hk).toNat:Int)=b2 l[k]:=fun k hk hk2=>cJ hs hk hk2;have hemp:(s.toList=[]) ↔ l=[]:=by rw[hs,ay]
 rw[<-hs];clear hs;obtain⟨N,hN⟩:=az (s.size);have lk:s.size=N:=hN.symm;have p7:N<=1024000000:=by omega
 have kd:=h_ hby;clear hby;have fL:=h_ hsz;clear hsz hl hN;have hb2:0<=b∧b<=16:=by omega
 by_cases hnil:l=[]
 ·rw[if_pos hnil]
  have he:=hemp.mpr hnil;have he1:s.toList.isEmpty=true:=by simpa using he
  clear hemp;go_enter func214,ntmps214
  go_wp2_with fail
  go_ret2
  exact⟨rfl,rfl⟩
 rw[if_neg hnil];have he:¬ s.toList=[]:=fun h=>hnil (hemp.mp h);have he1:s.toList.isEmpty=false:=by simpa using he
 clear hemp;have Zh:=h_ hnil;clear hnil;have lC:=h_ hb;clear hb;go_enter func214,ntmps214
 go_wp2_with fail
 go_loopw [6,13] (fun nv iv wr=>∃ (k:Nat) (n:Int),k<=N∧iv=.int .i64 k∧nv=.int .i64 n∧Hid (gK b 4294967296 n (l.drop k)=R)∧0<=n∧n<=4294967296∧w=wr) (fun _ i _=>N-(intOf i).toNat)
 case atStart=>exact⟨0,0,by omega,by simp,by simp,HR.out.symm,by omega,by omega,rfl⟩
 case round =>
  obtain⟨k,n,hk,rfl,rfl,hd,hn0,hn1,rfl⟩:=hrel;by_cases hlt:k<N
  ·have nS:k<s.size:=by omega
   have hkl:k<l.length:=by have:=fL.out;omega
   have hx:=kd.out k nS hkl;have hst:=P8 b 4294967296 n hkl;rw[hd.out]at hst;have hr:=jr l[k];have hda:=fun W=>dB (b2 l[k]) b W hr (by omega)
   have hlo:-1<=fI (b2 l[k]) b∧fI (b2 l[k]) b<36:=by
    unfold fI;simp only
    split <;>(try split) <;>(try split) <;>(try split) <;>omega
   obtain⟨D,hD⟩:=az (fI (b2 l[k]) b);rw[<-hD]at hst hda hlo;clear hD;generalize b2 l[k]=X at hx hr hda;have vl:=h_ hda;clear hda hd;have hnb:0<=n*b∧n*b<=68719476736:=by rcases lC.out with rfl|rfl|rfl <;>omega
   by_cases hD0:D<0
   ·rw[if_pos hD0]at hst
    have HST:=h_ hst;clear hst
    go_wp2_with (first|(go_at_call 62;refine(vl.out _).mono ?_;rintro e w2 ⟨rfl,rfl⟩)|fail)
    go_ret2
    exact⟨by rw[HST.out];rfl,rfl⟩
   rw[if_neg hD0]at hst;obtain⟨M,hM⟩:=az (n*b);have hw1:IntKind.i64.wrap (n*b)=M:=by rw[hM];exact IntWalk.i64_in _ (by omega)
   rw[<-hM]at hst hnb;clear hM;have hw2:IntKind.i64.wrap (M+D)=M+D:=IntWalk.i64_in _ (by omega);by_cases hmn:M+D<=4294967296
   ·rw[show min (M+D) 4294967296=M+D by omega]at hst
    have HST:=h_ hst;clear hst
    go_wp2_with (first|(go_at_call 62;refine(vl.out _).mono ?_;rintro e w2 ⟨rfl,rfl⟩)|fail)
    go_roundw
    case rel=>exact⟨k+1,M+D,by omega,by simp,by simp;try omega,HST.out.symm,by omega,by omega,by trivial⟩
    case measure=>simp[intOf];omega
   rw[show min (M+D) 4294967296=4294967296 by omega]at hst;have HST:=h_ hst;clear hst
   go_wp2_with (first|(go_at_call 62;refine(vl.out _).mono ?_;rintro e w2 ⟨rfl,rfl⟩)|fail)
   go_roundw
   case rel=>exact⟨k+1,4294967296,by omega,by simp,by simp;try omega,HST.out.symm,by omega,by omega,by trivial⟩
   case measure=>simp[intOf];omega
  obtain rfl:k=N:=by omega
  have hdr:l.drop k=[]:=bB (by have:=fL.out;omega);have hd1:=hd.out;rw[hdr]at hd1;have HST:=h_ (show some n=R from hd1);clear hd1 hd
  go_wp2_with fail
  go_ret2
  exact⟨by rw[<-HST.out];rfl,rfl⟩
theorem oO(l m:Bytes)(w:World):bV prog 57 #[.string (bs l),.string (bs m)] w (.bool (Lib.hasPrefix l m)):=by
 have h:=Any.strings_HasPrefix laysHP (bs l) (bs m) w;rw[show(bs l).data.toList=l from dR l,show(bs m).data.toList=m from dR m]at h;exact h

theorem hp2(c x:UInt8)(t:Bytes)(y:UInt8):Lib.hasPrefix (c::x::t) [48,y]=(decide (c=48)&&decide (x=y)):=by
 have h:∀ a b:UInt8,(a==b)=decide (b=a):=fun a b=>by
  rw[cK];simp only[beq_iff_eq,decide_eq_true_eq];exact eq_comm
 show((48==c)&&((y==x)&&true))=_;rw[h,h,jq]
theorem pI(l:Bytes)(h:l.length<2)(y:UInt8):Lib.hasPrefix l [48,y]=false:=by
 match l,h with
 | [],_=>rfl
 | [c],_=>simp[Lib.hasPrefix,List.isPrefixOf]
def Zy(l:Bytes)(p q:Bool):Prop:=(∀W,bV prog 57 #[.string (bs l),.string ⟨#[48,120]⟩] W (.bool p))∧(∀W,bV prog 57 #[.string (bs l),.string ⟨#[48,88]⟩] W (.bool q))
theorem Zy.of(l:Bytes):Zy l (Lib.hasPrefix l [48,120]) (Lib.hasPrefix l [48,88]):=⟨fun W=>oO l [48,120] W,fun W=>oO l [48,88] W⟩
theorem DE(l:Bytes)(w:World)(hl:l.length<=1024000000) :
  Calls prog 215 #[.string (bs l)] w fun e w'=>e=a3q (oV 4294967296 l) .i64∧w'=w:=by
 have hnc:=Zy.of l
 match l,hl,hnc with
 | [],hl,hnc =>
  have hz:=fun W=>jP [] 10 W (by simp) (by omega);rw[pI [] (by simp),pI [] (by simp)]at hnc;have Ca:=h_ hnc.1;have Ct:=h_ hnc.2;clear hnc;have HZ:=h_ hz;clear hz;obtain⟨s,hs⟩:=az (bs []);have hsz:s.size=0:=by rw[hs];rfl
  rw[<-hs]at HZ Ca Ct ⊢;clear hs;go_enter func215,ntmps215
  go_wp2_with (first
   |(go_at_call 57;(with_reducible first|refine(Ca.out _).mono ?_|refine(Ct.out _).mono ?_);rintro e w2 ⟨rfl,hw2⟩;subst hw2)
   |(go_at_call 214;refine(HZ.out _).mono ?_;rintro e w2 ⟨rfl,hw2⟩;subst hw2)
   |fail)
  go_ret2
  exact⟨rfl,rfl⟩
 | [c],hl,hnc =>
  have hz:=fun W=>jP [c] 10 W (by simp) (by omega);rw[pI [c] (by simp),pI [c] (by simp)]at hnc;have Ca:=h_ hnc.1;have Ct:=h_ hnc.2;clear hnc;rw[if_neg (by simp)]at hz;obtain⟨R,hR⟩:=az (oV 4294967296 [c]);rw[show gK 10 4294967296 0 [c]=R from hR.symm]at hz;rw[<-hR];clear hR;have HZ:=h_ hz;clear hz;obtain⟨s,hs⟩:=az (bs [c]);have hsz:s.size=1:=by rw[hs];rfl
  rw[<-hs]at HZ Ca Ct ⊢;clear hs;go_enter func215,ntmps215
  go_wp2_with (first
   |(go_at_call 57;(with_reducible first|refine(Ca.out _).mono ?_|refine(Ct.out _).mono ?_);rintro e w2 ⟨rfl,hw2⟩;subst hw2)
   |(go_at_call 214;refine(HZ.out _).mono ?_;rintro e w2 ⟨rfl,hw2⟩;subst hw2)
   |fail)
  go_ret2
  exact⟨rfl,rfl⟩
 |c::x::t,hl,hnc =>
  rw[hp2,hp2]at hnc;rw[Kn];have hsz0:(bs (c::x::t)).size=t.length+2:=by rw[aM];rfl
  have hx0:∀ h,(((bs (c::x::t))[0]'h).toNat:Int)=b2 c:=fun h=>rfl
  have hs1:(bs (c::x::t)).extract 1 (t.length+2)=bs (x::t):=by
   rw[bX];congr 1;simp
  have hs2:(bs (c::x::t)).extract 2 (t.length+2)=bs t:=by
   rw[bX];congr 1;simp
  obtain⟨L,hL⟩:=az (t.length);rw[<-hL]at hsz0 hs1 hs2;have hLm:L<=1024000000:=by simp at hl;omega
  by_cases hc:c=48
  ·have hb:b2 c=48:=by rw[hc];decide
   rw[hb]at hx0;rw[if_pos hc];rw[show decide (c=48)=true by simpa using hc,kU,kU]at hnc;by_cases hx:x=120∨x=88
   ·rw[if_pos hx]
    have hp:∃ p q,decide (x=120)=p∧decide (x=88)=q∧((p=true∧q=false)∨(p=false∧q=true)):=by
     rcases hx with rfl|rfl
     ·exact⟨true,false,rfl,rfl,.inl ⟨rfl,rfl⟩⟩
     exact⟨false,true,rfl,rfl,.inr ⟨rfl,rfl⟩⟩
    obtain⟨p,q,hp1,hp2,hpq⟩:=hp;rw[hp1,hp2]at hnc;have hz:=fun W=>jP t 16 W (by omega) (by omega);have Ca:=h_ hnc.1;have Ct:=h_ hnc.2;clear hnc hp1 hp2 hc hx;obtain⟨s,hs⟩:=az (bs (c::x::t));rw[<-hs]at hsz0 hs2 Ca Ct ⊢;clear hs hx0 hs1 hl;by_cases ht:t=[]
    ·subst ht
     obtain rfl:L=0:=hL;clear hz;rcases hpq with⟨rfl,rfl⟩|⟨rfl,rfl⟩
     all_goals
      go_enter func215,ntmps215
      go_wp2_with (first
       |(go_at_call 57;(with_reducible first|refine(Ca.out _).mono ?_|refine(Ct.out _).mono ?_);rintro e w2 ⟨rfl,hw2⟩;subst hw2)
       |fail)
      go_ret2
      exact⟨rfl,rfl⟩
    rw[if_neg ht]at hz;have hL1:L≠0:=fun h=>ht (ak (by omega));obtain⟨R,hR⟩:=az (gK 16 4294967296 0 t);rw[<-hR]at hz ⊢;obtain⟨u,hu⟩:=az (bs t);rw[<-hu]at hz hs2;have HZ:=h_ hz;clear hz ht hR hu hL;rcases hpq with⟨rfl,rfl⟩|⟨rfl,rfl⟩
    all_goals
     go_enter func215,ntmps215
     go_wp2_with (first
      |(go_at_call 57;(with_reducible first|refine(Ca.out _).mono ?_|refine(Ct.out _).mono ?_);rintro e w2 ⟨rfl,hw2⟩;subst hw2)
      |(go_at_call 214;refine(HZ.out _).mono ?_;rintro e w2 ⟨rfl,hw2⟩;subst hw2)
      |fail)
     go_ret2
     exact⟨rfl,rfl⟩
   rw[if_neg hx];rw[show decide (x=120)=false by simpa using fun h=>hx (.inl h),show decide (x=88)=false by simpa using fun h=>hx (.inr h)]at hnc;have hz:=fun W=>jP (x::t) 8 W (by simp at hl ⊢;omega) (by omega);rw[if_neg (by simp)]at hz;have Ca:=h_ hnc.1;have Ct:=h_ hnc.2;clear hnc hc hx;obtain⟨R,hR⟩:=az (gK 8 4294967296 0 (x::t));rw[<-hR]at hz ⊢;obtain⟨u,hu⟩:=az (bs (x::t));rw[<-hu]at hz hs1;obtain⟨s,hs⟩:=az (bs (c::x::t));have hx0':∀ h:0<s.size,((s[0]'h).toNat:Int)=48:=by subst hs;exact hx0
   rw[<-hs]at hsz0 hs1 Ca Ct ⊢;clear hs hx0 hs2 hl;have hx1:=hx0' (show 0<s.size by rw[hsz0];exact b0T _);have HZ:=h_ hz;clear hz hR hu hL hx0';go_enter func215,ntmps215
   go_wp2_with (first
    |(go_at_call 57;(with_reducible first|refine(Ca.out _).mono ?_|refine(Ct.out _).mono ?_);rintro e w2 ⟨rfl,hw2⟩;subst hw2)
    |(go_at_call 214;refine(HZ.out _).mono ?_;rintro e w2 ⟨rfl,hw2⟩;subst hw2)
    |fail)
   go_ret2
   exact⟨rfl,rfl⟩
  have hb:b2 c≠48:=fun h=>hc (by have:=fB (x:=c) (y:=48) (by rw[h];decide);exact this);rw[if_neg hc];rw[show decide (c=48)=false by simpa using hc,Bool.false_and,Bool.false_and]at hnc;have hz:=fun W=>jP (c::x::t) 10 W hl (by omega);rw[if_neg (by simp)]at hz;have Ca:=h_ hnc.1;have Ct:=h_ hnc.2;clear hnc hc;obtain⟨R,hR⟩:=az (gK 10 4294967296 0 (c::x::t));rw[<-hR]at hz ⊢;obtain⟨s,hs⟩:=az (bs (c::x::t));have hx0':∀ h:0<s.size,((s[0]'h).toNat:Int)=b2 c:=by subst hs;exact hx0
  rw[<-hs]at hsz0 hz Ca Ct ⊢;clear hs hx0 hs1 hs2 hl;have hx1:=hx0' (show 0<s.size by rw[hsz0];exact b0T _);generalize b2 c=C at hb hx1;have HZ:=h_ hz;clear hz hR hL hx0';go_enter func215,ntmps215
  go_wp2_with (first
   |(go_at_call 57;(with_reducible first|refine(Ca.out _).mono ?_|refine(Ct.out _).mono ?_);rintro e w2 ⟨rfl,hw2⟩;subst hw2)
   |(go_at_call 214;refine(HZ.out _).mono ?_;rintro e w2 ⟨rfl,hw2⟩;subst hw2)
   |fail)
  go_ret2
  exact⟨rfl,rfl⟩

theorem mT:(prog.info? 9).map (fun i=>(i.zero,i.size,i.bytes))=some (some (.string ⟨#[]⟩),1,16):=by kernel_rfl
def a8z(w:World)(ps:List Bytes):Ending->World->Prop:=fun e w'=>∃ v,e=.returned v∧Sl w'.heap.size w' v (ps.map S)∧Below w.heap.size w w'
theorem Xh(w:World)(ps:List Bytes)(hl:ps.length<=1024000000):Sl (w.alloc (.cells (Strs ps).toArray 9)).heap.size (w.alloc (.cells (Strs ps).toArray 9)) (.slice (some ⟨w.heap.size,0,none⟩) ps.length ps.length) (ps.map S) :=
 Sl.dM (Ek w w.heap.size 9 ps (af _) hl)
theorem Sl.pre{B b o n c:Nat}{w:World}{xs:List Value}(h:Sl B w (.slice (some ⟨b,o,none⟩) n c) xs)(hn:n=xs.length)(hn0:n≠0)(k:Nat)(hk:k<=n):Sl B w (.slice (some ⟨b,o,none⟩) k c) (xs.take k):=by
 obtain⟨c',h1,h2,h⟩:=h;rcases h with⟨hx,_⟩|⟨b',o',hb,hv,ha⟩
 ·rw[hx]at hn;exact absurd hn hn0
 injection hv with e1 e2 e3
 injection e1 with e1
 injection e1 with e4 e5
 subst e4 e5 e3;refine⟨c,by rw[aE];omega,h2,.inr ⟨b,o,hb,?_,fun j hj=>?_⟩⟩
 ·rw[aE,yv (by omega)]
 rw[aE]at hj;rw[ha j (by omega)];simp
theorem last_at{α:Type}{l:List α}{K:Nat}(h:l.length=K+1):l.getLast? = some (l[K]'(by omega)):=by
 rw[List.getLast?_eq_getElem?,show l.length-1=K by omega];exact aJ (by omega)
theorem zw(l:Bytes)(w:World)(hl:l.length<=102400000)(hE:Env w):Calls prog 213 #[.string (bs l)] w (a8z w (eC l)):=by
 have hsp:=zV l w hE (by omega);rw[qV,<-vy]at hsp;have hlen:=vz 46 l;obtain⟨ps,hps⟩:=az (et 46 l);have hpf:eC l=if 1<ps.length∧ps.getLast? = some []then ps.dropLast else ps:=by unfold eC;rw[hps]
 have hne:ps ≠ []:=by obtain⟨p,q,h⟩:=kI 46 l;rw[hps,h];simp
 rw[hpf];rw[<-hps]at hsp hlen;clear hpf hps;obtain⟨K,hK⟩:∃ K,ps.length=K+1:=⟨ps.length-1,by have:=kD.mpr hne;omega⟩;have hla:=last_at hK;have hKm:K<=102400000:=by omega
 have hsl:=Xh w ps (by omega);have hbel:Below w.heap.size w (w.alloc (.cells (Strs ps).toArray 9)):=(Below.refl _ w).alloc (af _) _;rw[hK]at hsp hsl;obtain⟨b,o,hbo,_,hcell⟩:=kT hsl K (by omega);obtain⟨rfl,rfl⟩:b=w.heap.size∧o=0:=by injection hbo with h;injection h with h1 h2;exact⟨h1.symm,h2.symm⟩
 rw[bC]at hcell;rw[hla];obtain⟨q,hq⟩:=az (ps[K]'(by omega));rw[<-hq]at hcell ⊢;obtain⟨w2,hw2⟩:=az (w.alloc (.cells (Strs ps).toArray 9));rw[<-hw2]at hsp hsl hbel hcell;obtain⟨s,hs⟩:=az (bs l);rw[<-hs]at hsp ⊢;obtain⟨g,hg⟩:=az (w.heap.size);rw[<-hg]at hsp hsl hbel hcell;have hbel0:∃ g0,g=g0∧g0=w.heap.size:=⟨g,rfl,hg⟩;have HG:=h_ hbel0;clear hbel0;have j0:=h_ hsp;clear hsp;have HSL:=h_ hsl;clear hsl;have Fm:=h_ (show Below w.heap.size w w2 from hg▸hbel);clear hbel;clear hs hw2 hla hne hlen hbo hE hg;clear hq;obtain⟨N,hN⟩:=az (K+1);have hw1:IntKind.i64.wrap (((K+1:Nat):Int)-1)=(K:Int):=by rw[IntWalk.i64_in _ (by omega)];omega
 rw[<-hN]at j0 hw1;have hKN:K<N:=by omega
 have HN:=h_ hN;clear hN;by_cases h1:1<N
 ·by_cases hqe:q=[]
  ·have he:(bs q).toList.isEmpty=true:=by rw[ay,hqe];rfl
   have he2:(bs q).toList=[]:=by rw[ay,hqe]
   rw[if_pos ⟨by have:=HN.out;omega,by rw[hqe]⟩]
   have hfin:Sl w2.heap.size w2 (.slice (some ⟨g,0,none⟩) K N) (ps.dropLast.map S):=by
    have:=HSL.out.pre (by rw[am,hK]) (by omega) K (by omega);rw[m8,hK,Nat.add_sub_cancel,a6B,HN.out];exact this
   have HA2:=h_ hfin;clear hfin;replace hcell:w2.cell? ⟨g,K,none⟩=some (.string (bs q)):=hcell;generalize bs q=u at hcell he he2;clear hqe hK HSL;go_enter func213,ntmps213
   go_wp2_with fail
   refine(j0.out).mono ?_;rintro e w3 ⟨rfl,rfl⟩
   go_wp2_with fail
   go_ret;exact⟨_,rfl,HA2.out,Fm.out⟩
  have he:(bs q).toList.isEmpty=false:=by rw[ay];simpa using hqe
  have he2:¬ (bs q).toList=[]:=by rw[ay];exact hqe
  rw[if_neg (fun a=>hqe (by have:=a.2;injection this))];have OP:=h_ HSL.out;rw[<-HN.out]at OP;replace hcell:w2.cell? ⟨g,K,none⟩=some (.string (bs q)):=hcell;generalize bs q=u at hcell he he2;clear hqe hK HSL;go_enter func213,ntmps213
  go_wp2_with fail
  refine(j0.out).mono ?_;rintro e w3 ⟨rfl,rfl⟩
  go_wp2_with fail
  go_ret;exact⟨_,rfl,OP.out,Fm.out⟩
 rw[if_neg (fun a=>h1 (by have:=HN.out;omega))];have OP:=h_ HSL.out;rw[<-HN.out]at OP;clear hK HSL hcell;go_enter func213,ntmps213
 go_wp2_with fail
 refine(j0.out).mono ?_;rintro e w3 ⟨rfl,rfl⟩
 go_wp2_with fail
 go_ret;exact⟨_,rfl,OP.out,Fm.out⟩

theorem tV{l p:Bytes}(h:p∈eC l):p.length<=l.length:=(nh 46 l p (M7 h)).1
theorem Qp(l:Bytes)(w:World)(hl:l.length<=102400000)(hE:Env w):bN prog 202 #[.string (bs l)] w (.bool (rG l)):=by
 have hpa:=zw l w hl hE;have hsm:=fun p (h:p∈eC l)=>tV h;have hpn:=zx l;have hef:rG l=Ec ((eC l).getLast (lr l)):=rfl;have hne:=lr l;rw[hef];clear hef;have hla:∀ (ps:List Bytes) (h:ps ≠ []) (K:Nat) (hK:ps.length=K+1),ps.getLast h=ps[K]'(by omega):=fun ps h K hK=>by rw[List.getLast_eq_getElem];congr 1;omega
 obtain⟨K,hK⟩:∃ K,(eC l).length=K+1:=⟨(eC l).length-1,by have:=kD.mpr hne;omega⟩;obtain⟨q,hq0⟩:=az ((eC l).getLast (lr l));have hqq:=hq0;rw[hla _ _ K hK]at hqq;rw[<-hq0];clear hq0;generalize eC l=ps at hpa hsm hpn hne hK hqq;have hq:q.length<=l.length:=by rw[hqq];exact hsm _ (bw _)
 have hKm:K<=102400000:=by omega
 have hd:=fun W=>jP q 10 W (by omega) (by omega);have hn:=fun W=>DE q W (by omega)
 have hlf:Ec q=((if q=[]then none else gK 10 4294967296 0 q).isSome||(oV 4294967296 q).isSome):=by
  unfold Ec;by_cases h:q=[]
  ·subst h;rfl
  rw[if_neg h,Bool.or_comm]
  congr 1
  cases gK 10 4294967296 0 q <;>simp[h]
 rw[hlf];clear hlf hsm hpn hla;generalize (if q=[]then none else gK 10 4294967296 0 q)=o1 at hd;generalize oV 4294967296 q=o2 at hn
 have hsl:∀ (w2:World) (v:Value),Sl w2.heap.size w2 v (ps.map S)->∃ b o c,v=.slice (some ⟨b,o,none⟩) (K+1) c∧w2.cell? ⟨b,o+K,none⟩=some (.string (bs q)):=by
  intro w2 v h;obtain⟨a,c,rfl⟩:=dN h;rw[am,hK]at h ⊢;obtain⟨b,o,rfl,_,hc⟩:=kT h K (by omega);exact⟨b,o,c,rfl,by rw[hqq];exact hc⟩
 obtain⟨N,hN⟩:=az (K+1);have hw1:IntKind.i64.wrap (((K+1:Nat):Int)-1)=(K:Int):=by rw[IntWalk.i64_in _ (by omega)];omega
 rw[<-hN]at hsl hw1;have hKN:K<N:=by omega
 have HSL:=h_ hsl;clear hsl;have HD:=h_ hd;clear hd;have HN:=h_ hn;clear hn;have XZ:=h_ hpa;clear hpa;obtain⟨s,hs⟩:=az (bs l);rw[<-hs]at XZ ⊢;obtain⟨u,hu⟩:=az (bs q);rw[<-hu]at HSL HD HN;clear hs hu hqq hK hN hq;cases o1 with
 |some d =>
  go_enter func202,ntmps202
  go_wp2_with fail
  refine(XZ.out).mono ?_;rintro e w2 ⟨v,rfl,hv,hb2⟩;obtain⟨b,o,c,rfl,hc⟩:=HSL.out w2 v hv;have HB:=h_ hb2;clear hb2 hv
  go_wp2_with (first
   |(go_at_call 214;refine(HD.out _).mono ?_;rintro e w2 ⟨rfl,hw2⟩;subst hw2)
   |fail)
  go_ret;exact⟨rfl,HB.out⟩
 |none =>
  rw[Option.isSome_none,Bool.false_or];go_enter func202,ntmps202
  go_wp2_with fail
  refine(XZ.out).mono ?_;rintro e w2 ⟨v,rfl,hv,hb2⟩;obtain⟨b,o,c,rfl,hc⟩:=HSL.out w2 v hv;have HB:=h_ hb2;clear hb2 hv
  go_wp2_with (first
   |(go_at_call 214;refine(HD.out _).mono ?_;rintro e w2 ⟨rfl,hw2⟩;subst hw2)
   |(go_at_call 215;refine(HN.out _).mono ?_;rintro e w2 ⟨rfl,hw2⟩;subst hw2)
   |fail)
  go_ret;exact⟨rfl,HB.out⟩
theorem a0f{C:Int}{i:Nat}{s:Int}{ps:List Bytes}{k:Nat}(h:k+1=ps.length):oJ C i s (ps.drop k)=match oV C (ps[k]'(by omega))with|none=>none|some n=>if room i<=n then none else some (s+n):=by
 rw[aq (by omega),dK (by omega)];rfl
theorem VX{C:Int}{i:Nat}{s:Int}{ps:List Bytes}{k:Nat}(h:k+1<ps.length):oJ C i s (ps.drop k)=match oV C (ps[k]'(by omega))with|none=>none|some n=>if 255<n then none else oJ C (i+1) (s+n*room (i+1)) (ps.drop (k+1)):=by
 rw[aq (show k<ps.length by omega),aq h];rfl
abbrev a8A(o:Option Int):Ending:=.returned (.tuple #[.int .u32 (o.getD 0),.bool o.isSome])
theorem Gv(l:Bytes)(w:World)(hl:l.length<=102400000)(hE:Env w):Calls prog 203 #[.string (bs l)] w fun e w'=>e=a8A (mc l)∧Below w.heap.size w w':=by
 have hpa:=zw l w hl hE;have hsm:=fun p (h:p∈eC l)=>tV h;have hpn:=zx l;have hne:=lr l;unfold mc fpF;have hrg:∀ v,(eC l).length<=4->oJ 4294967296 0 0 (eC l)=some v->0<=v∧v<4294967296:=fun v h h2=>wn _ 0 0 v hne (by omega) (by omega) (by decide) h2;generalize eC l=ps at hpa hsm hpn hne hrg;obtain⟨N,hN⟩:=az (ps.length);have hN0:N≠0:=fun h=>hne (ak (by omega))
 have hsl:∀ (w2:World) (v:Value),Sl w2.heap.size w2 v (ps.map S)->∃ b o c,v=.slice (some ⟨b,o,none⟩) N c∧b<w2.heap.size∧∀ k (hk:k<ps.length),w2.cell? ⟨b,o+k,none⟩=some (.string (bs ps[k])):=by
  intro w2 v h;obtain⟨a,c,rfl⟩:=dN h;rw[am,<-hN]at h;obtain⟨b,o,rfl,hb,hc⟩:=kT h 0 (by omega);refine⟨b,o,c,by rw[am,<-hN],hb,fun k hk=>?_⟩;obtain⟨b',o',he,_,hc'⟩:=kT h k hk;injection he with he;injection he with e1 e2
  rw[e1,e2];exact hc'
 obtain⟨s,hs⟩:=az (bs l);rw[<-hs]at hpa ⊢;clear hs hE;have HSL:=h_ hsl;clear hsl;have XZ:=h_ hpa;clear hpa;have HSM:=h_ hsm;clear hsm;have HL:=h_ hl;clear hl;have Oe:=h_ hrg;clear hrg;rw[<-hN]at hpn ⊢;have p7:N<=1024000000:=by have:=HL.out;omega
 clear hpn hne;by_cases h4:4<N
 ·rw[if_pos h4]
  clear hN;go_enter func203,ntmps203
  go_wp2_with fail
  refine(XZ.out).mono ?_;rintro e w2 ⟨v,rfl,hv,hb2⟩;obtain⟨b,o,c,rfl,hb,hc⟩:=HSL.out w2 v hv;have HB:=h_ hb2;clear hb2 hv hc
  go_wp2_with fail
  go_ret2
  exact⟨rfl,HB.out⟩
 rw[if_neg h4];have HN:=h_ hN;clear hN;obtain⟨R,hR⟩:=az (oJ 4294967296 0 0 ps);rw[<-hR];have hrr:∀ v,R=some v->0<=v∧v<4294967296:=fun v h=>Oe.out v (by rw[<-HN.out];omega) (by rw[<-hR];exact h);have HR:=h_ hR;clear hR;have HRR:=h_ hrr;clear hrr Oe;go_enter func203,ntmps203
 go_wp2_with fail
 refine(XZ.out).mono ?_;rintro e w2 ⟨v,rfl,hv,hb2⟩;obtain⟨b,o,c,rfl,hb,hc⟩:=HSL.out w2 v hv;have HB:=h_ hb2;clear hb2 hv;have HC:=h_ hc;clear hc
 go_wp2_with fail
 go_loopw [5,17] (fun sv iv wr=>∃ (k:Nat) (n:Int),k<=N∧iv=.int .i64 k∧sv=.int .i64 n∧Hid (oJ 4294967296 k n (ps.drop k)=R)∧0<=n∧n<=4294967296∧(k<N->n+room k<=4294967296)∧w2=wr) (fun _ i _=>N-(intOf i).toNat)
 case atStart=>exact⟨0,0,by omega,by simp,by simp,HR.out.symm,by omega,by omega,fun _=>by decide,rfl⟩
 case round =>
  obtain⟨k,n,hk,rfl,rfl,hf,hn0,hn1,hn2,rfl⟩:=hrel;by_cases hlt:k<N
  ·have hkl:k<ps.length:=by have:=HN.out;omega
   have hcell:=HC.out k hkl;have hnm:=fun W=>DE ps[k] W (by have:=HSM.out ps[k] (bw hkl);have:=HL.out;omega);have hge:=fun v h=>Hn (C:=4294967296) (by decide) (s:=ps[k]'hkl) (v:=v) h;have hf1:=hf.out;by_cases hlast:k+1=N
   ·rw[a0f (by have:=HN.out;omega)]at hf1
    generalize oV 4294967296 ps[k]=O at hnm hge hf1;generalize bs ps[k]=u at hcell hnm;have om:=h_ hnm;clear hnm hf;cases O with
    |none =>
     have HF:=h_ (show none=R from hf1);clear hf1 hge;have hw1:IntKind.i64.wrap ((N:Int)-1)=(k:Int):=by rw[IntWalk.i64_in _ (by omega)];omega
     go_wp2_with (first
      |(go_at_call 215;refine(om.out _).mono ?_;rintro e w3 ⟨rfl,hw3⟩;subst hw3)
      |fail)
     go_ret2
     exact⟨by rw[<-HF.out];rfl,HB.out⟩
    |some m =>
     have hm:=hge m rfl;have HF:=h_ (show(if room k<=m then none else some (n+m))=R from hf1);clear hf1 hge;have hw1:IntKind.i64.wrap ((N:Int)-1)=(k:Int):=by rw[IntWalk.i64_in _ (by omega)];omega
     have hk4:k=0∨k=1∨k=2∨k=3:=by omega
     have DT:=hn2 hlt;have hws:IntKind.i64.wrap (n+m)=n+m:=IntWalk.i64_in _ (by omega);by_cases hrm:room k<=m
     ·rw[if_pos hrm]at HF
      clear hn2 DT;have XV:=h_ hlast;clear hlast;rcases hk4 with rfl|rfl|rfl|rfl
      all_goals
       simp only[room]at hrm
       try simp only[dU]at hcell
       go_wp2_with (first
        |(go_at_call 215;refine(om.out _).mono ?_;rintro e w3 ⟨rfl,hw3⟩;subst hw3)
        |fail)
       go_ret2
       exact⟨by rw[<-HF.out];rfl,HB.out⟩
     rw[if_neg hrm]at HF;have hs2:n+m<=4294967296:=by omega
     have HR2:=h_ (show oJ 4294967296 (k+1) (n+m) (ps.drop (k+1))=R by rw[dK (by have:=HN.out;omega)];exact HF.out);have hkn:¬ k+1<N:=by omega
     clear hn2 DT;have XV:=h_ hlast;clear hlast;have HKN:=h_ hkn;clear hkn;rcases hk4 with rfl|rfl|rfl|rfl
     all_goals
      simp only[room]at hrm
      try simp only[dU]at hcell
      go_wp2_with (first
       |(go_at_call 215;refine(om.out _).mono ?_;rintro e w3 ⟨rfl,hw3⟩;subst hw3)
       |fail)
      go_roundw
      case rel=>exact⟨_,n+m,(by have:=XV.out;omega),by rfl,by rfl,HR2.out,by omega,by omega,fun h=>absurd h HKN.out,by trivial⟩
      case measure=>simp[intOf];omega
   rw[VX (by have:=HN.out;omega)]at hf1;generalize oV 4294967296 ps[k]=O at hnm hge hf1;generalize bs ps[k]=u at hcell hnm;have om:=h_ hnm;clear hnm hf;have hw1:IntKind.i64.wrap ((N:Int)-1)=(N:Int)-1:=by rw[IntWalk.i64_in _ (by omega)]
   have hnl:¬ (k:Int)=(N:Int)-1:=by omega
   cases O with
   |none =>
    have HF:=h_ (show none=R from hf1);clear hf1 hge
    go_wp2_with (first
     |(go_at_call 215;refine(om.out _).mono ?_;rintro e w3 ⟨rfl,hw3⟩;subst hw3)
     |fail)
    go_ret2
    exact⟨by rw[<-HF.out];rfl,HB.out⟩
   |some m =>
    have hm:=hge m rfl;have HF:=h_ (show(if 255<m then none else oJ 4294967296 (k+1) (n+m*room (k+1)) (ps.drop (k+1)))=R from hf1);clear hf1 hge;by_cases Yu:255<m
    ·rw[if_pos Yu]at HF
     go_wp2_with (first
      |(go_at_call 215;refine(om.out _).mono ?_;rintro e w3 ⟨rfl,hw3⟩;subst hw3)
      |fail)
     go_ret2
     exact⟨by rw[<-HF.out];rfl,HB.out⟩
    rw[if_neg Yu]at HF;have hk4:k=0∨k=1∨k=2:=by omega
    have DT:=hn2 hlt;clear hn2;rcases hk4 with rfl|rfl|rfl
    ·simp only[room]at HF DT
     try simp only[dU]at hcell
     have a0O:IntKind.i64.wrap (m*16777216)=m*16777216:=IntWalk.i64_in _ (by omega);have hws:IntKind.i64.wrap (n+m*16777216)=n+m*16777216:=IntWalk.i64_in _ (by omega)
     go_wp2_with (first
      |(go_at_call 215;refine(om.out _).mono ?_;rintro e w3 ⟨rfl,hw3⟩;subst hw3)
      |fail)
     have JP:n+m*16777216<=4294967296∧(1<N->n+m*16777216+room (1)<=4294967296):=⟨by omega,fun _=>by show _+_+16777216<=_;omega⟩;go_roundw
     case rel=>exact⟨1,n+m*16777216,by omega,by rfl,by rfl,HF.out,by omega,JP.1,JP.2,by trivial⟩
     case measure=>simp[intOf];omega
    ·simp only[room]at HF DT
     try simp only[dU]at hcell
     have a0O:IntKind.i64.wrap (m*65536)=m*65536:=IntWalk.i64_in _ (by omega);have hws:IntKind.i64.wrap (n+m*65536)=n+m*65536:=IntWalk.i64_in _ (by omega)
     go_wp2_with (first
      |(go_at_call 215;refine(om.out _).mono ?_;rintro e w3 ⟨rfl,hw3⟩;subst hw3)
      |fail)
     have JP:n+m*65536<=4294967296∧(2<N->n+m*65536+room (2)<=4294967296):=⟨by omega,fun _=>by show _+_+65536<=_;omega⟩;go_roundw
     case rel=>exact⟨2,n+m*65536,by omega,by rfl,by rfl,HF.out,by omega,JP.1,JP.2,by trivial⟩
     case measure=>simp[intOf];omega
    simp only[room]at HF DT
    try simp only[dU]at hcell
    have a0O:IntKind.i64.wrap (m*256)=m*256:=IntWalk.i64_in _ (by omega);have hws:IntKind.i64.wrap (n+m*256)=n+m*256:=IntWalk.i64_in _ (by omega)
    go_wp2_with (first
     |(go_at_call 215;refine(om.out _).mono ?_;rintro e w3 ⟨rfl,hw3⟩;subst hw3)
     |fail)
    have JP:n+m*256<=4294967296∧(3<N->n+m*256+room (3)<=4294967296):=⟨by omega,fun _=>by show _+_+256<=_;omega⟩;go_roundw
    case rel=>exact⟨3,n+m*256,by omega,by rfl,by rfl,HF.out,by omega,JP.1,JP.2,by trivial⟩
    case measure=>simp[intOf];omega
  obtain rfl:k=N:=by omega
  have hf1:=hf.out;rw[dK (by have:=HN.out;omega)]at hf1;have hfs:some n=R:=hf1;have hnr:=HRR.out n hfs.symm;have hwr:IntKind.u32.wrap n=n:=by rw[IntKind.wrap_u32];omega
  have HF:=h_ hfs;clear hf hf1 hfs;clear hn2
  go_wp2_with fail
  go_ret2
  exact⟨by rw[<-HF.out];rfl,HB.out⟩

theorem jW(o:List Bytes)(p:Bytes):Strs (o++[p])=Strs o++[.string (bs p)]:=by simp
end Go.Proofs.YtmndlfglgcioeaaGreatDoor
