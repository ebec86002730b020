/- FouA FouB FouC FouD FouE FouR: joined. -/
import Derived.Test.YtmndlfglgcioeaaGreatDoorGIdnI
import Derived.Test.YtmndlfglgcioeaaGreatDoorGIdnG
import Derived.Test.YtmndlfglgcioeaaGreatDoorGTextA
import Derived.Test.YtmndlfglgcioeaaGreatDoorGPunL
import Derived.Test.YtmndlfglgcioeaaGreatDoorGNumB
import Derived.Test.YtmndlfglgcioeaaGreatDoorShelf
import Derived.Test.YtmndlfglgcioeaaGreatDoorGEmB
set_option maxHeartbeats 40000000
namespace Go.Proofs.YtmndlfglgcioeaaGreatDoor
open Tryz
open Go.RowKit
set_option maxRecDepth 10000
def dR (c:UInt8):Bytes->List Bytes
 | []=>[[]]
 |x::r=>if x=c then []::dR c r else match dR c r with | []=>[[x]]|p::ps=>(x::p)::ps
theorem mh (c:UInt8) (r:Bytes):dR c (c::r)=[]::dR c r:=by rw[dR,if_pos rfl]
theorem iL (c:UInt8):∀ t,∃p ps,dR c t=p::ps
 | []=>⟨_,_,rfl⟩
 |x::r=>by
  unfold dR
  split
  ·exact⟨_,_,rfl⟩
  obtain⟨p,ps,h⟩:=iL c r
  rw[h];exact⟨_,_,rfl⟩
theorem jl {c x:UInt8} {r p:Bytes} {ps:List Bytes} (h:x≠c) (hr:dR c r=p::ps):dR c (x::r)=(x::p)::ps:=by
 rw[dR,if_neg h,hr]
theorem sA (c:UInt8):∀ a b:Bytes,dR c (a++c::b)=dR c a++dR c b
 | [],b=>by rw[bW,mh];rfl
 |x::r,b=>by
  have ih:=sA c r b
  obtain⟨p,ps,h⟩:=iL c r
  by_cases hx:x=c
  ·subst hx
   rw[bI,mh,mh,ih];rfl
  rw[h]at ih
  rw[bI,jl hx ih,jl hx h];rfl
theorem mS {c:UInt8} {p:Bytes} (h:c∉p):dR c p=[p]:=by
 induction p with
 |nil=>rfl
 |cons x r ih =>
  have hx:x≠c:=fun h2=>h (by simp[h2])
  exact jl hx (ih (fun h2=>h (by simp[h2])))
theorem zg:∀ t:Bytes,dR 46 t=kT t
 | []=>rfl
 |x::r=>by rw[dR,kT,zg r];rfl
theorem sB (c:UInt8):∀ t:Bytes,(dR c t).length<=t.length+1
 | []=>by simp[dR]
 |x::r=>by
  have ih:=sB c r
  obtain⟨p,ps,h⟩:=iL c r
  rw[h]at ih
  by_cases hx:x=c
  ·subst hx;rw[mh,h];simp at ih ⊢;omega
  rw[jl hx h];simp at ih ⊢;omega
theorem kS (c:UInt8):∀ (t p:Bytes),p∈dR c t->p.length<=t.length∧c∉p∧∀ x∈p,x∈t
 | [],p,h=>by simp[dR]at h;subst h;simp
 |x::r,p,h=>by
  obtain⟨q,qs,hq⟩:=iL c r
  by_cases hx:x=c
  ·subst hx
   rw[mh]at h
   rcases aN.mp h with rfl|h
   ·simp
   obtain⟨h1,h2,h3⟩:=kS x r p h
   exact⟨by simp;omega,h2,fun y hy=>ej _ (h3 y hy)⟩
  rw[jl hx hq]at h
  rcases aN.mp h with rfl|h
  ·obtain⟨h1,h2,h3⟩:=kS c r q (by rw[hq];simp)
   refine⟨by simp;omega,?_,?_⟩
   ·intro hm
    rcases aN.mp hm with e|hm
    ·exact hx e.symm
    exact h2 hm
   intro y hy
   rcases aN.mp hy with rfl|hy
   ·simp
   exact ej _ (h3 y hy)
  obtain⟨h1,h2,h3⟩:=kS c r p (by rw[hq];exact ej _ h)
  exact⟨by simp;omega,h2,fun y hy=>ej _ (h3 y hy)⟩
def e8 (b C:Int):Int->Bytes->Option Int
 |n,[]=>some n
 |n,c::t=>if eF (b2 c) b<0 then none else e8 b C (min (n*b+eF (b2 c) b) C) t
def ox (C:Int):Bytes->Option Int
 | []=>none
 | [c]=>e8 10 C 0 [c]
 |c::x::t=>if c=48 then(if x=120∨x=88 then e8 16 C 0 t else e8 8 C 0 (x::t))else e8 10 C 0 (c::x::t)
theorem Ff (C:Int) (c x:UInt8) (t:Bytes):ox C (c::x::t)=if c=48 then(if x=120∨x=88 then e8 16 C 0 t else e8 8 C 0 (x::t))else e8 10 C 0 (c::x::t):=rfl
theorem sF (b C:Int) (hb:0<=b) (hC:0<=C):∀ (l:Bytes) (n v:Int),0<=n->n<=C->e8 b C n l=some v->0<=v∧v<=C
 | [],n,v,h,h2,e=>by unfold e8 at e;injection e with e;subst e;exact⟨h,h2⟩
 |c::t,n,v,h,_,e=>by
  unfold e8 at e
  split at e
  ·cases e
  next hd =>
  have:=dN h hb
  exact sF b C hb hC t _ v (by omega) (by omega) e
theorem De {C:Int} (hC:0<=C) {s:Bytes} {v:Int} (h:ox C s=some v):0<=v∧v<=C:=by
 match s,h with
 | [],h=>cases h
 | [c],h=>exact sF 10 C (by omega) hC _ 0 v (by omega) hC h
 |c::x::t,h =>
  rw[Ff]at h
  split at h
  ·split at h
   ·exact sF 16 C (by omega) hC _ 0 v (by omega) hC h
   exact sF 8 C (by omega) hC _ 0 v (by omega) hC h
  exact sF 10 C (by omega) hC _ 0 v (by omega) hC h
def ei (s:Bytes):List Bytes:=if 1<(dR 46 s).length∧(dR 46 s).getLast? = some []then(dR 46 s).dropLast else dR 46 s
theorem kC (s:Bytes):ei s ≠ []:=by
 obtain⟨p,ps,h⟩:=iL 46 s
 unfold ei
 rw[h]
 split
 ·next hc =>
  intro e
  have:((p::ps).dropLast).length=0:=by rw[e];rfl
  rw[gX]at this
  omega
 simp
theorem Hr {s p:Bytes} (h:p∈ei s):p∈dR 46 s:=by
 unfold ei at h
 split at h
 ·exact lT _ h
 exact h
theorem vW (s:Bytes):(ei s).length<=s.length+1:=by
 have:=sB 46 s
 unfold ei
 split
 ·rw[gX];omega
 exact this
def E7 (t:Bytes):Bool:=(ox 4294967296 t).isSome||decide (t ≠ []∧(e8 10 4294967296 0 t).isSome=true)
def vw (s:Bytes):Bool:=E7 ((ei s).getLast (kC s))
def room:Nat->Int|0=>4294967296|1=>16777216|2=>65536|3=>256|_=>1
def qt (C:Int):Nat->Int->List Bytes->Option Int
 |_,s,[]=>some s
 |i,s,[p]=>match ox C p with|none=>none|some n=>if room i<=n then none else some (s+n)
 |i,s,p::q::t=>match ox C p with|none=>none|some n=>if 255<n then none else qt C (i+1) (s+n*room (i+1)) (q::t)
def fpF (ps:List Bytes):Option Int:=if 4<ps.length then none else qt 4294967296 0 0 ps
def mo (s:Bytes):Option Int:=fpF (ei s)
theorem room_le (i:Nat):1<=room i∧room i<=4294967296:=by unfold room;split <;>decide
theorem Hx {i:Nat} (h:i<4):256*room (i+1)=room i:=by
 match i,h with
 |0,_=>decide
 |1,_=>decide
 |2,_=>decide
 |3,_=>decide
theorem s4:∀ (ps:List Bytes) (i:Nat) (s v:Int),ps ≠ []->i+ps.length<=4->0<=s->s+room i<=4294967296->qt 4294967296 i s ps=some v->0<=v∧v<4294967296
 | [],_,_,_,h,_,_,_,_=>absurd rfl h
 | [p],i,s,v,_,_,h0,h1,e=>by
  unfold qt at e
  cases h:ox 4294967296 p with
  |none=>rw[h]at e;cases e
  |some n =>
   rw[h]at e
   have hn:=De (by decide) h
   dsimp only at e
   split at e
   ·cases e
   injection e with e;omega
 |p::q::t,i,s,v,_,hl,h0,h1,e=>by
  unfold qt at e
  cases h:ox 4294967296 p with
  |none=>rw[h]at e;cases e
  |some n =>
   rw[h]at e
   have hn:=De (by decide) h
   dsimp only at e
   split at e
   ·cases e
   next hc =>
   have hi:i<4:=by simp at hl;omega
   have hs:=Hx hi
   have hr:=room_le (i+1)
   have hm:0<=n*room (i+1):=dN hn.1 (by omega)
   have hm2:n*room (i+1)<=255*room (i+1):=dX (by omega) (by omega)
   exact s4 (q::t) (i+1) _ v (by simp) (by simp at hl ⊢;omega) (by omega) (by omega) e
theorem xI {s:Bytes} {v:Int} (h:mo s=some v):0<=v∧v<4294967296:=by
 unfold mo fpF at h
 split at h
 ·cases h
 next hc=>exact s4 _ 0 0 v (kC s) (by omega) (by omega) (by decide) h

abbrev Ye (o:Option Int) (k:IntKind):Ending:=.returned (.tuple #[.int k (o.getD 0),.bool o.isSome])
theorem KG (b C n:Int) {l:Bytes} {k:Nat} (h:k<l.length):e8 b C n (l.drop k)=if eF (b2 l[k]) b<0 then none else e8 b C (min (n*b+eF (b2 l[k]) b) C) (l.drop (k+1)):=by
 rw[ay h];rfl
theorem gP (l:Bytes) (b:Int) (w:World) (hl:l.length<=1024000000) (hb:b=8∨b=10∨b=16) :
  Calls prog 214 #[.string (bs l),.int .i64 b] w fun e w'=>e=Ye (if l=[]then none else e8 b 4294967296 0 l) .i64∧w'=w:=by
 obtain⟨R,hR⟩:=ap (e8 b 4294967296 0 l)
 rw[<-hR]
 have HR:=h_ hR;clear hR
 obtain⟨s,hs⟩:=ap (bs l)
 have hsz:s.size=l.length:=by rw[hs,aB]
 have hby:∀ k (hk:k<s.size) (hk2:k<l.length),((s[k]'hk).toNat:Int)=b2 l[k]:=fun k hk hk2=>bV hs hk hk2
 have hemp:(s.toList=[]) ↔ l=[]:=by rw[hs,au]
 rw[<-hs]
 clear hs
 obtain⟨N,hN⟩:=ap (s.size)
 have jF:s.size=N:=hN.symm
 have pg:N<=1024000000:=by omega
 have fF:=h_ hby;clear hby
 have e7:=h_ hsz;clear hsz hl hN
 have hb2:0<=b∧b<=16:=by omega
 by_cases hnil:l=[]
 ·rw[if_pos hnil]
  have he:=hemp.mpr hnil
  have he1:s.toList.isEmpty=true:=by simpa using he
  clear hemp
  go_enter func214,ntmps214
  go_wp2_with fail
  go_ret2
  exact⟨rfl,rfl⟩
 rw[if_neg hnil]
 have he:¬ s.toList=[]:=fun h=>hnil (hemp.mp h)
 have he1:s.toList.isEmpty=false:=by simpa using he
 clear hemp
 have TK:=h_ hnil;clear hnil
 have lW:=h_ hb;clear hb
 go_enter func214,ntmps214
 go_wp2_with fail
 go_loopw [6,13] (fun nv iv wr=>∃ (k:Nat) (n:Int),k<=N∧iv=.int .i64 k∧nv=.int .i64 n∧Hid (e8 b 4294967296 n (l.drop k)=R)∧0<=n∧n<=4294967296∧w=wr) (fun _ i _=>N-(intOf i).toNat)
 case atStart=>exact⟨0,0,by omega,by simp,by simp,HR.out.symm,by omega,by omega,rfl⟩
 case round =>
  obtain⟨k,n,hk,rfl,rfl,hd,hn0,hn1,rfl⟩:=hrel
  by_cases hlt:k<N
  ·have lV:k<s.size:=by omega
   have hkl:k<l.length:=by have:=e7.out;omega
   have hx:=fF.out k lV hkl
   have hst:=KG b 4294967296 n hkl
   rw[hd.out]at hst
   have hr:=iD l[k]
   have hda:=fun W=>cY (b2 l[k]) b W hr (by omega)
   have hlo:-1<=eF (b2 l[k]) b∧eF (b2 l[k]) b<36:=by
    unfold eF
    simp only
    split <;>(try split) <;>(try split) <;>(try split) <;>omega
   obtain⟨D,hD⟩:=ap (eF (b2 l[k]) b)
   rw[<-hD]at hst hda hlo
   clear hD
   generalize b2 l[k]=X at hx hr hda
   have r8:=h_ hda;clear hda hd
   have hnb:0<=n*b∧n*b<=68719476736:=by rcases lW.out with rfl|rfl|rfl <;>omega
   by_cases hD0:D<0
   ·rw[if_pos hD0]at hst
    have HST:=h_ hst;clear hst
    go_wp2_with (first|(go_at_call 62;refine(r8.out _).mono ?_;rintro e w2 ⟨rfl,rfl⟩)|fail)
    go_ret2
    exact⟨by rw[HST.out];rfl,rfl⟩
   rw[if_neg hD0]at hst
   obtain⟨M,hM⟩:=ap (n*b)
   have hw1:IntKind.i64.wrap (n*b)=M:=by rw[hM];exact IntWalk.i64_in _ (by omega)
   rw[<-hM]at hst hnb
   clear hM
   have hw2:IntKind.i64.wrap (M+D)=M+D:=IntWalk.i64_in _ (by omega)
   by_cases hmn:M+D<=4294967296
   ·rw[show min (M+D) 4294967296=M+D by omega]at hst
    have HST:=h_ hst;clear hst
    go_wp2_with (first|(go_at_call 62;refine(r8.out _).mono ?_;rintro e w2 ⟨rfl,rfl⟩)|fail)
    go_roundw
    case rel=>exact⟨k+1,M+D,by omega,by simp,by simp;try omega,HST.out.symm,by omega,by omega,by trivial⟩
    case measure=>simp[intOf];omega
   rw[show min (M+D) 4294967296=4294967296 by omega]at hst
   have HST:=h_ hst;clear hst
   go_wp2_with (first|(go_at_call 62;refine(r8.out _).mono ?_;rintro e w2 ⟨rfl,rfl⟩)|fail)
   go_roundw
   case rel=>exact⟨k+1,4294967296,by omega,by simp,by simp;try omega,HST.out.symm,by omega,by omega,by trivial⟩
   case measure=>simp[intOf];omega
  obtain rfl:k=N:=by omega
  have hdr:l.drop k=[]:=bf (by have:=e7.out;omega)
  have hd1:=hd.out
  rw[hdr]at hd1
  have HST:=h_ (show some n=R from hd1);clear hd1 hd
  go_wp2_with fail
  go_ret2
  exact⟨by rw[<-HST.out];rfl,rfl⟩
theorem n7 (l m:Bytes) (w:World):Calls prog 57 #[.string (bs l),.string (bs m)] w fun e w'=>e=.returned (.bool (Lib.hasPrefix l m))∧w'=w:=by
 have h:=Any.strings_HasPrefix laysHP (bs l) (bs m) w
 rw[show(bs l).data.toList=l from du l,show(bs m).data.toList=m from du m]at h
 exact h

theorem hp2 (c x:UInt8) (t:Bytes) (y:UInt8):Lib.hasPrefix (c::x::t) [48,y]=(decide (c=48)&&decide (x=y)):=by
 have h:∀ a b:UInt8,(a==b)=decide (b=a):=fun a b=>by
  rw[cg]
  simp only[beq_iff_eq,decide_eq_true_eq]
  exact eq_comm
 show((48==c)&&((y==x)&&true))=_
 rw[h,h,lH]
theorem mX (l:Bytes) (h:l.length<2) (y:UInt8):Lib.hasPrefix l [48,y]=false:=by
 match l,h with
 | [],_=>rfl
 | [c],_=>simp[Lib.hasPrefix,List.isPrefixOf]
def Ui (l:Bytes) (p q:Bool):Prop:=(∀W,Calls prog 57 #[.string (bs l),.string ⟨#[48,120]⟩] W fun e w'=>e=.returned (.bool p)∧w'=W)∧(∀W,Calls prog 57 #[.string (bs l),.string ⟨#[48,88]⟩] W fun e w'=>e=.returned (.bool q)∧w'=W)
theorem Ui.of (l:Bytes):Ui l (Lib.hasPrefix l [48,120]) (Lib.hasPrefix l [48,88]):=⟨fun W=>n7 l [48,120] W,fun W=>n7 l [48,88] W⟩
theorem zL (l:Bytes) (w:World) (hl:l.length<=1024000000) :
  Calls prog 215 #[.string (bs l)] w fun e w'=>e=Ye (ox 4294967296 l) .i64∧w'=w:=by
 have hnc:=Ui.of l
 match l,hl,hnc with
 | [],hl,hnc =>
  have hz:=fun W=>gP [] 10 W (by simp) (by omega)
  rw[mX [] (by simp),mX [] (by simp)]at hnc
  have yA:=h_ hnc.1
  have yQ:=h_ hnc.2;clear hnc
  have HZ:=h_ hz;clear hz
  obtain⟨s,hs⟩:=ap (bs [])
  have hsz:s.size=0:=by rw[hs];rfl
  rw[<-hs]at HZ yA yQ ⊢
  clear hs
  go_enter func215,ntmps215
  go_wp2_with (first
   |(go_at_call 57;(with_reducible first|refine(yA.out _).mono ?_|refine(yQ.out _).mono ?_);rintro e w2 ⟨rfl,hw2⟩;subst hw2)
   |(go_at_call 214;refine(HZ.out _).mono ?_;rintro e w2 ⟨rfl,hw2⟩;subst hw2)
   |fail)
  go_ret2
  exact⟨rfl,rfl⟩
 | [c],hl,hnc =>
  have hz:=fun W=>gP [c] 10 W (by simp) (by omega)
  rw[mX [c] (by simp),mX [c] (by simp)]at hnc
  have yA:=h_ hnc.1
  have yQ:=h_ hnc.2;clear hnc
  rw[if_neg (by simp)]at hz
  obtain⟨R,hR⟩:=ap (ox 4294967296 [c])
  rw[show e8 10 4294967296 0 [c]=R from hR.symm]at hz
  rw[<-hR]
  clear hR
  have HZ:=h_ hz;clear hz
  obtain⟨s,hs⟩:=ap (bs [c])
  have hsz:s.size=1:=by rw[hs];rfl
  rw[<-hs]at HZ yA yQ ⊢
  clear hs
  go_enter func215,ntmps215
  go_wp2_with (first
   |(go_at_call 57;(with_reducible first|refine(yA.out _).mono ?_|refine(yQ.out _).mono ?_);rintro e w2 ⟨rfl,hw2⟩;subst hw2)
   |(go_at_call 214;refine(HZ.out _).mono ?_;rintro e w2 ⟨rfl,hw2⟩;subst hw2)
   |fail)
  go_ret2
  exact⟨rfl,rfl⟩
 |c::x::t,hl,hnc =>
  rw[hp2,hp2]at hnc
  rw[Ff]
  have hsz0:(bs (c::x::t)).size=t.length+2:=by rw[aB];rfl
  have hx0:∀ h,(((bs (c::x::t))[0]'h).toNat:Int)=b2 c:=fun h=>rfl
  have hs1:(bs (c::x::t)).extract 1 (t.length+2)=bs (x::t):=by
   rw[bM];congr 1;simp
  have hs2:(bs (c::x::t)).extract 2 (t.length+2)=bs t:=by
   rw[bM];congr 1;simp
  obtain⟨L,hL⟩:=ap (t.length)
  rw[<-hL]at hsz0 hs1 hs2
  have Y8:L<=1024000000:=by simp at hl;omega
  by_cases hc:c=48
  ·have hb:b2 c=48:=by rw[hc];decide
   rw[hb]at hx0
   rw[if_pos hc]
   rw[show decide (c=48)=true by simpa using hc,A7,A7]at hnc
   by_cases hx:x=120∨x=88
   ·rw[if_pos hx]
    have hp:∃ p q,decide (x=120)=p∧decide (x=88)=q∧((p=true∧q=false)∨(p=false∧q=true)):=by
     rcases hx with rfl|rfl
     ·exact⟨true,false,rfl,rfl,.inl ⟨rfl,rfl⟩⟩
     exact⟨false,true,rfl,rfl,.inr ⟨rfl,rfl⟩⟩
    obtain⟨p,q,hp1,hp2,hpq⟩:=hp
    rw[hp1,hp2]at hnc
    have hz:=fun W=>gP t 16 W (by omega) (by omega)
    have yA:=h_ hnc.1
    have yQ:=h_ hnc.2;clear hnc hp1 hp2 hc hx
    obtain⟨s,hs⟩:=ap (bs (c::x::t))
    rw[<-hs]at hsz0 hs2 yA yQ ⊢
    clear hs hx0 hs1 hl
    by_cases ht:t=[]
    ·subst ht
     obtain rfl:L=0:=hL
     clear hz
     rcases hpq with⟨rfl,rfl⟩|⟨rfl,rfl⟩
     all_goals
      go_enter func215,ntmps215
      go_wp2_with (first
       |(go_at_call 57;(with_reducible first|refine(yA.out _).mono ?_|refine(yQ.out _).mono ?_);rintro e w2 ⟨rfl,hw2⟩;subst hw2)
       |fail)
      go_ret2
      exact⟨rfl,rfl⟩
    rw[if_neg ht]at hz
    have hL1:L≠0:=fun h=>ht (am (by omega))
    obtain⟨R,hR⟩:=ap (e8 16 4294967296 0 t)
    rw[<-hR]at hz ⊢
    obtain⟨u,hu⟩:=ap (bs t)
    rw[<-hu]at hz hs2
    have HZ:=h_ hz;clear hz ht hR hu hL
    rcases hpq with⟨rfl,rfl⟩|⟨rfl,rfl⟩
    all_goals
     go_enter func215,ntmps215
     go_wp2_with (first
      |(go_at_call 57;(with_reducible first|refine(yA.out _).mono ?_|refine(yQ.out _).mono ?_);rintro e w2 ⟨rfl,hw2⟩;subst hw2)
      |(go_at_call 214;refine(HZ.out _).mono ?_;rintro e w2 ⟨rfl,hw2⟩;subst hw2)
      |fail)
     go_ret2
     exact⟨rfl,rfl⟩
   rw[if_neg hx]
   rw[show decide (x=120)=false by simpa using fun h=>hx (.inl h),show decide (x=88)=false by simpa using fun h=>hx (.inr h)]at hnc
   have hz:=fun W=>gP (x::t) 8 W (by simp at hl ⊢;omega) (by omega)
   rw[if_neg (by simp)]at hz
   have yA:=h_ hnc.1
   have yQ:=h_ hnc.2;clear hnc hc hx
   obtain⟨R,hR⟩:=ap (e8 8 4294967296 0 (x::t))
   rw[<-hR]at hz ⊢
   obtain⟨u,hu⟩:=ap (bs (x::t))
   rw[<-hu]at hz hs1
   obtain⟨s,hs⟩:=ap (bs (c::x::t))
   have hx0':∀ h:0<s.size,((s[0]'h).toNat:Int)=48:=by subst hs;exact hx0
   rw[<-hs]at hsz0 hs1 yA yQ ⊢
   clear hs hx0 hs2 hl
   have hx1:=hx0' (show 0<s.size by rw[hsz0];exact nH _)
   have HZ:=h_ hz;clear hz hR hu hL hx0'
   go_enter func215,ntmps215
   go_wp2_with (first
    |(go_at_call 57;(with_reducible first|refine(yA.out _).mono ?_|refine(yQ.out _).mono ?_);rintro e w2 ⟨rfl,hw2⟩;subst hw2)
    |(go_at_call 214;refine(HZ.out _).mono ?_;rintro e w2 ⟨rfl,hw2⟩;subst hw2)
    |fail)
   go_ret2
   exact⟨rfl,rfl⟩
  have hb:b2 c≠48:=fun h=>hc (by have:=dz (x:=c) (y:=48) (by rw[h];decide);exact this)
  rw[if_neg hc]
  rw[show decide (c=48)=false by simpa using hc,Bool.false_and,Bool.false_and]at hnc
  have hz:=fun W=>gP (c::x::t) 10 W hl (by omega)
  rw[if_neg (by simp)]at hz
  have yA:=h_ hnc.1
  have yQ:=h_ hnc.2;clear hnc hc
  obtain⟨R,hR⟩:=ap (e8 10 4294967296 0 (c::x::t))
  rw[<-hR]at hz ⊢
  obtain⟨s,hs⟩:=ap (bs (c::x::t))
  have hx0':∀ h:0<s.size,((s[0]'h).toNat:Int)=b2 c:=by subst hs;exact hx0
  rw[<-hs]at hsz0 hz yA yQ ⊢
  clear hs hx0 hs1 hs2 hl
  have hx1:=hx0' (show 0<s.size by rw[hsz0];exact nH _)
  generalize b2 c=C at hb hx1
  have HZ:=h_ hz;clear hz hR hL hx0'
  go_enter func215,ntmps215
  go_wp2_with (first
   |(go_at_call 57;(with_reducible first|refine(yA.out _).mono ?_|refine(yQ.out _).mono ?_);rintro e w2 ⟨rfl,hw2⟩;subst hw2)
   |(go_at_call 214;refine(HZ.out _).mono ?_;rintro e w2 ⟨rfl,hw2⟩;subst hw2)
   |fail)
  go_ret2
  exact⟨rfl,rfl⟩

theorem kF:(prog.info? 9).map (fun i=>(i.zero,i.size,i.bytes))=some (some (.string ⟨#[]⟩),1,16):=by kernel_rfl
def a25 (w:World) (ps:List Bytes):Ending->World->Prop:=fun e w'=>∃ v,e=.returned v∧Sl w'.heap.size w' v (ps.map S)∧Below w.heap.size w w'
theorem QZ (w:World) (ps:List Bytes) (hl:ps.length<=1024000000):Sl (w.alloc (.cells (Strs ps).toArray 9)).heap.size (w.alloc (.cells (Strs ps).toArray 9)) (.slice (some ⟨w.heap.size,0,none⟩) ps.length ps.length) (ps.map S) :=
 Sl.bL (Ab w w.heap.size 9 ps (ae _) hl)
theorem Sl.pre {B b o n c:Nat} {w:World} {xs:List Value} (h:Sl B w (.slice (some ⟨b,o,none⟩) n c) xs) (hn:n=xs.length) (hn0:n≠0) (k:Nat) (hk:k<=n):Sl B w (.slice (some ⟨b,o,none⟩) k c) (xs.take k):=by
 obtain⟨c',h1,h2,h⟩:=h
 rcases h with⟨hx,_⟩|⟨b',o',hb,hv,ha⟩
 ·rw[hx]at hn;exact absurd hn hn0
 injection hv with e1 e2 e3
 injection e1 with e1
 injection e1 with e4 e5
 subst e4 e5 e3
 refine⟨c,by rw[aA];omega,h2,.inr ⟨b,o,hb,?_,fun j hj=>?_⟩⟩
 ·rw[aA,uM (by omega)]
 rw[aA]at hj
 rw[ha j (by omega)]
 simp
theorem last_at {α:Type} {l:List α} {K:Nat} (h:l.length=K+1):l.getLast? = some (l[K]'(by omega)):=by
 rw[List.getLast?_eq_getElem?,show l.length-1=K by omega]
 exact az (by omega)
theorem vV (l:Bytes) (w:World) (hl:l.length<=102400000) (hE:Env w):Calls prog 213 #[.string (bs l)] w (a25 w (ei l)):=by
 have hsp:=wJ l w hE (by omega)
 rw[oy,<-zg]at hsp
 have hlen:=sB 46 l
 obtain⟨ps,hps⟩:=ap (dR 46 l)
 have hpf:ei l=if 1<ps.length∧ps.getLast? = some []then ps.dropLast else ps:=by unfold ei;rw[hps]
 have hne:ps ≠ []:=by obtain⟨p,q,h⟩:=iL 46 l;rw[hps,h];simp
 rw[hpf]
 rw[<-hps]at hsp hlen
 clear hpf hps
 obtain⟨K,hK⟩:∃ K,ps.length=K+1:=⟨ps.length-1,by have:=fG.mpr hne;omega⟩
 have hla:=last_at hK
 have Y7:K<=102400000:=by omega
 have hsl:=QZ w ps (by omega)
 have hbel:Below w.heap.size w (w.alloc (.cells (Strs ps).toArray 9)):=(Below.refl _ w).alloc (ae _) _
 rw[hK]at hsp hsl
 obtain⟨b,o,Zi,_,hcell⟩:=nc hsl K (by omega)
 obtain⟨rfl,rfl⟩:b=w.heap.size∧o=0:=by injection Zi with h;injection h with h1 h2;exact⟨h1.symm,h2.symm⟩
 rw[bk]at hcell
 rw[hla]
 obtain⟨q,hq⟩:=ap (ps[K]'(by omega))
 rw[<-hq]at hcell ⊢
 obtain⟨w2,hw2⟩:=ap (w.alloc (.cells (Strs ps).toArray 9))
 rw[<-hw2]at hsp hsl hbel hcell
 obtain⟨s,hs⟩:=ap (bs l)
 rw[<-hs]at hsp ⊢
 obtain⟨g,hg⟩:=ap (w.heap.size)
 rw[<-hg]at hsp hsl hbel hcell
 have hbel0:∃ g0,g=g0∧g0=w.heap.size:=⟨g,rfl,hg⟩
 have HG:=h_ hbel0;clear hbel0
 have gF:=h_ hsp;clear hsp
 have HSL:=h_ hsl;clear hsl
 have Ru:=h_ (show Below w.heap.size w w2 from hg▸hbel);clear hbel
 clear hs hw2 hla hne hlen Zi hE hg
 clear hq
 obtain⟨N,hN⟩:=ap (K+1)
 have hw1:IntKind.i64.wrap (((K+1:Nat):Int)-1)=(K:Int):=by rw[IntWalk.i64_in _ (by omega)];omega
 rw[<-hN]at gF hw1
 have hKN:K<N:=by omega
 have HN:=h_ hN;clear hN
 by_cases h1:1<N
 ·by_cases hqe:q=[]
  ·have he:(bs q).toList.isEmpty=true:=by rw[au,hqe];rfl
   have he2:(bs q).toList=[]:=by rw[au,hqe]
   rw[if_pos ⟨by have:=HN.out;omega,by rw[hqe]⟩]
   have hfin:Sl w2.heap.size w2 (.slice (some ⟨g,0,none⟩) K N) (ps.dropLast.map S):=by
    have:=HSL.out.pre (by rw[aj,hK]) (by omega) K (by omega)
    rw[kN,hK,Nat.add_sub_cancel,a1c,HN.out]
    exact this
   have HA2:=h_ hfin;clear hfin
   replace hcell:w2.cell? ⟨g,K,none⟩=some (.string (bs q)):=hcell
   generalize bs q=u at hcell he he2
   clear hqe hK HSL
   go_enter func213,ntmps213
   go_wp2_with fail
   refine(gF.out).mono ?_
   rintro e w3 ⟨rfl,rfl⟩
   go_wp2_with fail
   go_ret
   exact⟨_,rfl,HA2.out,Ru.out⟩
  have he:(bs q).toList.isEmpty=false:=by rw[au];simpa using hqe
  have he2:¬ (bs q).toList=[]:=by rw[au];exact hqe
  rw[if_neg (fun a=>hqe (by have:=a.2;injection this))]
  have Jm:=h_ HSL.out
  rw[<-HN.out]at Jm
  replace hcell:w2.cell? ⟨g,K,none⟩=some (.string (bs q)):=hcell
  generalize bs q=u at hcell he he2
  clear hqe hK HSL
  go_enter func213,ntmps213
  go_wp2_with fail
  refine(gF.out).mono ?_
  rintro e w3 ⟨rfl,rfl⟩
  go_wp2_with fail
  go_ret
  exact⟨_,rfl,Jm.out,Ru.out⟩
 rw[if_neg (fun a=>h1 (by have:=HN.out;omega))]
 have Jm:=h_ HSL.out
 rw[<-HN.out]at Jm
 clear hK HSL hcell
 go_enter func213,ntmps213
 go_wp2_with fail
 refine(gF.out).mono ?_
 rintro e w3 ⟨rfl,rfl⟩
 go_wp2_with fail
 go_ret
 exact⟨_,rfl,Jm.out,Ru.out⟩

theorem rf {l p:Bytes} (h:p∈ei l):p.length<=l.length:=(kS 46 l p (Hr h)).1
theorem KX (l:Bytes) (w:World) (hl:l.length<=102400000) (hE:Env w):Calls prog 202 #[.string (bs l)] w fun e w'=>e=.returned (.bool (vw l))∧Below w.heap.size w w':=by
 have hpa:=vV l w hl hE
 have hsm:=fun p (h:p∈ei l)=>rf h
 have hpn:=vW l
 have hef:vw l=E7 ((ei l).getLast (kC l)):=rfl
 have hne:=kC l
 rw[hef]
 clear hef
 have hla:∀ (ps:List Bytes) (h:ps ≠ []) (K:Nat) (hK:ps.length=K+1),ps.getLast h=ps[K]'(by omega):=fun ps h K hK=>by rw[List.getLast_eq_getElem];congr 1;omega
 obtain⟨K,hK⟩:∃ K,(ei l).length=K+1:=⟨(ei l).length-1,by have:=fG.mpr hne;omega⟩
 obtain⟨q,hq0⟩:=ap ((ei l).getLast (kC l))
 have hqq:=hq0
 rw[hla _ _ K hK]at hqq
 rw[<-hq0]
 clear hq0
 generalize ei l=ps at hpa hsm hpn hne hK hqq
 have hq:q.length<=l.length:=by rw[hqq];exact hsm _ (bJ _)
 have Y7:K<=102400000:=by omega
 have hd:=fun W=>gP q 10 W (by omega) (by omega)
 have hn:=fun W=>zL q W (by omega)
 have hlf:E7 q=((if q=[]then none else e8 10 4294967296 0 q).isSome||(ox 4294967296 q).isSome):=by
  unfold E7
  by_cases h:q=[]
  ·subst h;rfl
  rw[if_neg h,Bool.or_comm]
  congr 1
  cases e8 10 4294967296 0 q <;>simp[h]
 rw[hlf]
 clear hlf hsm hpn hla
 generalize (if q=[]then none else e8 10 4294967296 0 q)=o1 at hd
 generalize ox 4294967296 q=o2 at hn
 have hsl:∀ (w2:World) (v:Value),Sl w2.heap.size w2 v (ps.map S)->∃ b o c,v=.slice (some ⟨b,o,none⟩) (K+1) c∧w2.cell? ⟨b,o+K,none⟩=some (.string (bs q)):=by
  intro w2 v h
  obtain⟨a,c,rfl⟩:=dt h
  rw[aj,hK]at h ⊢
  obtain⟨b,o,rfl,_,hc⟩:=nc h K (by omega)
  exact⟨b,o,c,rfl,by rw[hqq];exact hc⟩
 obtain⟨N,hN⟩:=ap (K+1)
 have hw1:IntKind.i64.wrap (((K+1:Nat):Int)-1)=(K:Int):=by rw[IntWalk.i64_in _ (by omega)];omega
 rw[<-hN]at hsl hw1
 have hKN:K<N:=by omega
 have HSL:=h_ hsl;clear hsl
 have HD:=h_ hd;clear hd
 have HN:=h_ hn;clear hn
 have RI:=h_ hpa;clear hpa
 obtain⟨s,hs⟩:=ap (bs l)
 rw[<-hs]at RI ⊢
 obtain⟨u,hu⟩:=ap (bs q)
 rw[<-hu]at HSL HD HN
 clear hs hu hqq hK hN hq
 cases o1 with
 |some d =>
  go_enter func202,ntmps202
  go_wp2_with fail
  refine(RI.out).mono ?_
  rintro e w2 ⟨v,rfl,hv,hb2⟩
  obtain⟨b,o,c,rfl,hc⟩:=HSL.out w2 v hv
  have HB:=h_ hb2;clear hb2 hv
  go_wp2_with (first
   |(go_at_call 214;refine(HD.out _).mono ?_;rintro e w2 ⟨rfl,hw2⟩;subst hw2)
   |fail)
  go_ret
  exact⟨rfl,HB.out⟩
 |none =>
  rw[Option.isSome_none,Bool.false_or]
  go_enter func202,ntmps202
  go_wp2_with fail
  refine(RI.out).mono ?_
  rintro e w2 ⟨v,rfl,hv,hb2⟩
  obtain⟨b,o,c,rfl,hc⟩:=HSL.out w2 v hv
  have HB:=h_ hb2;clear hb2 hv
  go_wp2_with (first
   |(go_at_call 214;refine(HD.out _).mono ?_;rintro e w2 ⟨rfl,hw2⟩;subst hw2)
   |(go_at_call 215;refine(HN.out _).mono ?_;rintro e w2 ⟨rfl,hw2⟩;subst hw2)
   |fail)
  go_ret
  exact⟨rfl,HB.out⟩
theorem Vc {C:Int} {i:Nat} {s:Int} {ps:List Bytes} {k:Nat} (h:k+1=ps.length):qt C i s (ps.drop k)=match ox C (ps[k]'(by omega))with|none=>none|some n=>if room i<=n then none else some (s+n):=by
 rw[ay (by omega),di (by omega)]
 rfl
theorem PL {C:Int} {i:Nat} {s:Int} {ps:List Bytes} {k:Nat} (h:k+1<ps.length):qt C i s (ps.drop k)=match ox C (ps[k]'(by omega))with|none=>none|some n=>if 255<n then none else qt C (i+1) (s+n*room (i+1)) (ps.drop (k+1)):=by
 rw[ay (show k<ps.length by omega),ay h]
 rfl
abbrev a26 (o:Option Int):Ending:=.returned (.tuple #[.int .u32 (o.getD 0),.bool o.isSome])
theorem Cn (l:Bytes) (w:World) (hl:l.length<=102400000) (hE:Env w):Calls prog 203 #[.string (bs l)] w fun e w'=>e=a26 (mo l)∧Below w.heap.size w w':=by
 have hpa:=vV l w hl hE
 have hsm:=fun p (h:p∈ei l)=>rf h
 have hpn:=vW l
 have hne:=kC l
 unfold mo fpF
 have hrg:∀ v,(ei l).length<=4->qt 4294967296 0 0 (ei l)=some v->0<=v∧v<4294967296:=fun v h h2=>s4 _ 0 0 v hne (by omega) (by omega) (by decide) h2
 generalize ei l=ps at hpa hsm hpn hne hrg
 obtain⟨N,hN⟩:=ap (ps.length)
 have hN0:N≠0:=fun h=>hne (am (by omega))
 have hsl:∀ (w2:World) (v:Value),Sl w2.heap.size w2 v (ps.map S)->∃ b o c,v=.slice (some ⟨b,o,none⟩) N c∧b<w2.heap.size∧∀ k (hk:k<ps.length),w2.cell? ⟨b,o+k,none⟩=some (.string (bs ps[k])):=by
  intro w2 v h
  obtain⟨a,c,rfl⟩:=dt h
  rw[aj,<-hN]at h
  obtain⟨b,o,rfl,hb,hc⟩:=nc h 0 (by omega)
  refine⟨b,o,c,by rw[aj,<-hN],hb,fun k hk=>?_⟩
  obtain⟨b',o',he,_,hc'⟩:=nc h k hk
  injection he with he;injection he with e1 e2
  rw[e1,e2];exact hc'
 obtain⟨s,hs⟩:=ap (bs l)
 rw[<-hs]at hpa ⊢
 clear hs hE
 have HSL:=h_ hsl;clear hsl
 have RI:=h_ hpa;clear hpa
 have uF:=h_ hsm;clear hsm
 have HL:=h_ hl;clear hl
 have WQ:=h_ hrg;clear hrg
 rw[<-hN]at hpn ⊢
 have pg:N<=1024000000:=by have:=HL.out;omega
 clear hpn hne
 by_cases h4:4<N
 ·rw[if_pos h4]
  clear hN
  go_enter func203,ntmps203
  go_wp2_with fail
  refine(RI.out).mono ?_
  rintro e w2 ⟨v,rfl,hv,hb2⟩
  obtain⟨b,o,c,rfl,hb,hc⟩:=HSL.out w2 v hv
  have HB:=h_ hb2;clear hb2 hv hc
  go_wp2_with fail
  go_ret2
  exact⟨rfl,HB.out⟩
 rw[if_neg h4]
 have HN:=h_ hN;clear hN
 obtain⟨R,hR⟩:=ap (qt 4294967296 0 0 ps)
 rw[<-hR]
 have hrr:∀ v,R=some v->0<=v∧v<4294967296:=fun v h=>WQ.out v (by rw[<-HN.out];omega) (by rw[<-hR];exact h)
 have HR:=h_ hR;clear hR
 have HRR:=h_ hrr;clear hrr WQ
 go_enter func203,ntmps203
 go_wp2_with fail
 refine(RI.out).mono ?_
 rintro e w2 ⟨v,rfl,hv,hb2⟩
 obtain⟨b,o,c,rfl,hb,hc⟩:=HSL.out w2 v hv
 have HB:=h_ hb2;clear hb2 hv
 have HC:=h_ hc;clear hc
 go_wp2_with fail
 go_loopw [5,17] (fun sv iv wr=>∃ (k:Nat) (n:Int),k<=N∧iv=.int .i64 k∧sv=.int .i64 n∧Hid (qt 4294967296 k n (ps.drop k)=R)∧0<=n∧n<=4294967296∧(k<N->n+room k<=4294967296)∧w2=wr) (fun _ i _=>N-(intOf i).toNat)
 case atStart=>exact⟨0,0,by omega,by simp,by simp,HR.out.symm,by omega,by omega,fun _=>by decide,rfl⟩
 case round =>
  obtain⟨k,n,hk,rfl,rfl,hf,hn0,hn1,hn2,rfl⟩:=hrel
  by_cases hlt:k<N
  ·have hkl:k<ps.length:=by have:=HN.out;omega
   have hcell:=HC.out k hkl
   have hnm:=fun W=>zL ps[k] W (by have:=uF.out ps[k] (bJ hkl);have:=HL.out;omega)
   have hge:=fun v h=>De (C:=4294967296) (by decide) (s:=ps[k]'hkl) (v:=v) h
   have hf1:=hf.out
   by_cases hlast:k+1=N
   ·rw[Vc (by have:=HN.out;omega)]at hf1
    generalize ox 4294967296 ps[k]=O at hnm hge hf1
    generalize bs ps[k]=u at hcell hnm
    have lS:=h_ hnm;clear hnm hf
    cases O with
    |none =>
     have HF:=h_ (show none=R from hf1);clear hf1 hge
     have hw1:IntKind.i64.wrap ((N:Int)-1)=(k:Int):=by rw[IntWalk.i64_in _ (by omega)];omega
     go_wp2_with (first
      |(go_at_call 215;refine(lS.out _).mono ?_;rintro e w3 ⟨rfl,hw3⟩;subst hw3)
      |fail)
     go_ret2
     exact⟨by rw[<-HF.out];rfl,HB.out⟩
    |some m =>
     have hm:=hge m rfl
     have HF:=h_ (show(if room k<=m then none else some (n+m))=R from hf1);clear hf1 hge
     have hw1:IntKind.i64.wrap ((N:Int)-1)=(k:Int):=by rw[IntWalk.i64_in _ (by omega)];omega
     have hk4:k=0∨k=1∨k=2∨k=3:=by omega
     have zX:=hn2 hlt
     have hws:IntKind.i64.wrap (n+m)=n+m:=IntWalk.i64_in _ (by omega)
     by_cases hrm:room k<=m
     ·rw[if_pos hrm]at HF
      clear hn2 zX
      have RF:=h_ hlast;clear hlast
      rcases hk4 with rfl|rfl|rfl|rfl
      all_goals
       simp only[room]at hrm
       try simp only[d8]at hcell
       go_wp2_with (first
        |(go_at_call 215;refine(lS.out _).mono ?_;rintro e w3 ⟨rfl,hw3⟩;subst hw3)
        |fail)
       go_ret2
       exact⟨by rw[<-HF.out];rfl,HB.out⟩
     rw[if_neg hrm]at HF
     have hs2:n+m<=4294967296:=by omega
     have HR2:=h_ (show qt 4294967296 (k+1) (n+m) (ps.drop (k+1))=R by rw[di (by have:=HN.out;omega)];exact HF.out)
     have hkn:¬ k+1<N:=by omega
     clear hn2 zX
     have RF:=h_ hlast;clear hlast
     have HKN:=h_ hkn;clear hkn
     rcases hk4 with rfl|rfl|rfl|rfl
     all_goals
      simp only[room]at hrm
      try simp only[d8]at hcell
      go_wp2_with (first
       |(go_at_call 215;refine(lS.out _).mono ?_;rintro e w3 ⟨rfl,hw3⟩;subst hw3)
       |fail)
      go_roundw
      case rel=>exact⟨_,n+m,(by have:=RF.out;omega),by rfl,by rfl,HR2.out,by omega,by omega,fun h=>absurd h HKN.out,by trivial⟩
      case measure=>simp[intOf];omega
   rw[PL (by have:=HN.out;omega)]at hf1
   generalize ox 4294967296 ps[k]=O at hnm hge hf1
   generalize bs ps[k]=u at hcell hnm
   have lS:=h_ hnm;clear hnm hf
   have hw1:IntKind.i64.wrap ((N:Int)-1)=(N:Int)-1:=by rw[IntWalk.i64_in _ (by omega)]
   have hnl:¬ (k:Int)=(N:Int)-1:=by omega
   cases O with
   |none =>
    have HF:=h_ (show none=R from hf1);clear hf1 hge
    go_wp2_with (first
     |(go_at_call 215;refine(lS.out _).mono ?_;rintro e w3 ⟨rfl,hw3⟩;subst hw3)
     |fail)
    go_ret2
    exact⟨by rw[<-HF.out];rfl,HB.out⟩
   |some m =>
    have hm:=hge m rfl
    have HF:=h_ (show(if 255<m then none else qt 4294967296 (k+1) (n+m*room (k+1)) (ps.drop (k+1)))=R from hf1);clear hf1 hge
    by_cases SY:255<m
    ·rw[if_pos SY]at HF
     go_wp2_with (first
      |(go_at_call 215;refine(lS.out _).mono ?_;rintro e w3 ⟨rfl,hw3⟩;subst hw3)
      |fail)
     go_ret2
     exact⟨by rw[<-HF.out];rfl,HB.out⟩
    rw[if_neg SY]at HF
    have hk4:k=0∨k=1∨k=2:=by omega
    have zX:=hn2 hlt
    clear hn2
    rcases hk4 with rfl|rfl|rfl
    ·simp only[room]at HF zX
     try simp only[d8]at hcell
     have VJ:IntKind.i64.wrap (m*16777216)=m*16777216:=IntWalk.i64_in _ (by omega)
     have hws:IntKind.i64.wrap (n+m*16777216)=n+m*16777216:=IntWalk.i64_in _ (by omega)
     go_wp2_with (first
      |(go_at_call 215;refine(lS.out _).mono ?_;rintro e w3 ⟨rfl,hw3⟩;subst hw3)
      |fail)
     have EN:n+m*16777216<=4294967296∧(1<N->n+m*16777216+room (1)<=4294967296):=⟨by omega,fun _=>by show _+_+16777216<=_;omega⟩
     go_roundw
     case rel=>exact⟨1,n+m*16777216,by omega,by rfl,by rfl,HF.out,by omega,EN.1,EN.2,by trivial⟩
     case measure=>simp[intOf];omega
    ·simp only[room]at HF zX
     try simp only[d8]at hcell
     have VJ:IntKind.i64.wrap (m*65536)=m*65536:=IntWalk.i64_in _ (by omega)
     have hws:IntKind.i64.wrap (n+m*65536)=n+m*65536:=IntWalk.i64_in _ (by omega)
     go_wp2_with (first
      |(go_at_call 215;refine(lS.out _).mono ?_;rintro e w3 ⟨rfl,hw3⟩;subst hw3)
      |fail)
     have EN:n+m*65536<=4294967296∧(2<N->n+m*65536+room (2)<=4294967296):=⟨by omega,fun _=>by show _+_+65536<=_;omega⟩
     go_roundw
     case rel=>exact⟨2,n+m*65536,by omega,by rfl,by rfl,HF.out,by omega,EN.1,EN.2,by trivial⟩
     case measure=>simp[intOf];omega
    simp only[room]at HF zX
    try simp only[d8]at hcell
    have VJ:IntKind.i64.wrap (m*256)=m*256:=IntWalk.i64_in _ (by omega)
    have hws:IntKind.i64.wrap (n+m*256)=n+m*256:=IntWalk.i64_in _ (by omega)
    go_wp2_with (first
     |(go_at_call 215;refine(lS.out _).mono ?_;rintro e w3 ⟨rfl,hw3⟩;subst hw3)
     |fail)
    have EN:n+m*256<=4294967296∧(3<N->n+m*256+room (3)<=4294967296):=⟨by omega,fun _=>by show _+_+256<=_;omega⟩
    go_roundw
    case rel=>exact⟨3,n+m*256,by omega,by rfl,by rfl,HF.out,by omega,EN.1,EN.2,by trivial⟩
    case measure=>simp[intOf];omega
  obtain rfl:k=N:=by omega
  have hf1:=hf.out
  rw[di (by have:=HN.out;omega)]at hf1
  have hfs:some n=R:=hf1
  have hnr:=HRR.out n hfs.symm
  have hwr:IntKind.u32.wrap n=n:=by rw[IntKind.wrap_u32];omega
  have HF:=h_ hfs;clear hf hf1 hfs
  clear hn2
  go_wp2_with fail
  go_ret2
  exact⟨by rw[<-HF.out];rfl,HB.out⟩

theorem gV (o:List Bytes) (p:Bytes):Strs (o++[p])=Strs o++[.string (bs p)]:=by simp
end Go.Proofs.YtmndlfglgcioeaaGreatDoor
