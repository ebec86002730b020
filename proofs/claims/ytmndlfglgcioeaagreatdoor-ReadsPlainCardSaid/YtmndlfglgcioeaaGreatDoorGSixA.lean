/- SixA SixB SixR SixC SixD SixE SixS PctF PctG: joined. -/
import Derived.Test.YtmndlfglgcioeaaGreatDoorGFouA
import Derived.Test.YtmndlfglgcioeaaGreatDoorGNumB
import Derived.Test.YtmndlfglgcioeaaGreatDoorGPctE
import Derived.BigQuiet
import Derived.Test.YtmndlfglgcioeaaGreatDoorGReg
set_option maxHeartbeats 40000000
namespace Go.Proofs.YtmndlfglgcioeaaGreatDoor
open Tryz
open Go.RowKit
set_option maxRecDepth 10000
def oX (b:Int):Int->Bytes->Option Int
 |n,[]=>some n
 |n,c::t=>if eF (b2 c) b<0 then none else oX b (n*b+eF (b2 c) b) t
def iw (s:Bytes):Option Int:=if s=[]∨4<s.length then none else oX 16 0 s
def fg (s:Bytes):Option Int :=
 if s=[]∨3<s.length∨(1<s.length∧s.head? = some 48)then none
 else match oX 10 0 s with|none=>none|some n=>if 255<n then none else some n
def W9:List Bytes->Option (Int×Int)
 | [p,q,r,t]=>match fg p with|none=>none|some a=>match fg q with|none=>none|some b=>match fg r with|none=>none|some c=>match fg t with|none=>none|some d=>some (256*a+b,256*c+d)
 |_=>none
def W8 (s:Bytes):Option (Int×Int):=W9 (dR 46 s)
def endP (nums:Bool) (t:Bytes):Option (List Int):=if nums=true∧46∈t then(W8 t).map (fun v=>[v.1,v.2])else(iw t).map (fun n=>[n])
def rowP (nums:Bool):List Bytes->Option (List Int)
 | []=>some []
 | [t]=>endP nums t
 |t::q::r=>match iw t with|none=>none|some n=>(rowP nums (q::r)).map (n::·)
def pI (nums:Bool) (s:Bytes):Option (List Int) :=
 if s=[]then some []else match rowP nums (dR 58 s)with|none=>none|some l=>if 8<l.length then none else some l
def uR:Bytes->Option (Bytes×Bytes)
 |x::y::r=>if x=58∧y=58 then some ([],r)else(uR (y::r)).map fun v=>(x::v.1,v.2)
 |_=>none
def nO (s:Bytes):Option (List Int) :=
 match uR s with
 |none=>match pI true s with|none=>none|some l=>if l.length=8 then some l else none
 |some (a,b)=>match pI false a,pI true b with
  |some l,some r=>if 8<=l.length+r.length then none else some (l++List.replicate (8-l.length-r.length) 0++r)
  |_,_=>none
theorem nX (b:Int) (hb:1<=b) (hd:∀ c,eF c b<b):∀ (l:Bytes) (n v:Int) (m:Nat),0<=n->n<b ^ m->oX b n l=some v->0<=v∧v<b ^ (m+l.length)
 | [],n,v,m,h,h2,e=>by unfold oX at e;injection e with e;subst e;exact⟨h,by simpa using h2⟩
 |c::t,n,v,m,h,h2,e=>by
  unfold oX at e
  split at e
  ·cases e
  next hc =>
  have h3:=dN h (show 0<=b by omega)
  have h4:(n+1)*b<=b ^ m*b:=dX (by omega) (by omega)
  rw[a9E,Int.one_mul]at h4
  have h5:=hd (b2 c)
  have:=nX b hb hd t _ v (m+1) (by omega) (by rw[kh];omega) e
  rw[show m+1+t.length=m+(c::t).length by simp;omega]at this
  exact this
theorem sG (c:Int):eF c 10<10:=by unfold eF;simp only;split <;>omega
theorem rg {t:Bytes} {n:Int} (h:iw t=some n):0<=n∧n<65536:=by
 unfold iw at h
 split at h
 ·cases h
 next hc =>
 have:=nX 16 (by omega) xA t 0 n 0 (by omega) (by decide) h
 refine⟨this.1,?_⟩
 have h4:t.length=1∨t.length=2∨t.length=3∨t.length=4:=by
  have:t.length≠0:=fun e=>hc (.inl (am e))
  omega
 have h2:=this.2
 rcases h4 with e|e|e|e <;>rw[e]at h2 <;>simp at h2 <;>omega
theorem iX {t:Bytes} {n:Int} (h:fg t=some n):0<=n∧n<256:=by
 unfold fg at h
 split at h
 ·cases h
 cases hd:oX 10 0 t with
 |none=>rw[hd]at h;cases h
 |some v =>
  rw[hd]at h
  dsimp only at h
  split at h
  ·cases h
  injection h with h
  have:=nX 10 (by omega) sG t 0 v 0 (by omega) (by decide) hd
  omega
theorem vD {l:List Bytes} {v:Int×Int} (h:W9 l=some v):(0<=v.1∧v.1<65536)∧(0<=v.2∧v.2<65536):=by
 unfold W9 at h
 split at h
 ·next p q r t =>
  cases ha:fg p with
  |none=>rw[ha]at h;cases h
  |some a =>
   cases hb:fg q with
   |none=>rw[ha,hb]at h;cases h
   |some b =>
    cases hc:fg r with
    |none=>rw[ha,hb,hc]at h;cases h
    |some c =>
     cases hd:fg t with
     |none=>rw[ha,hb,hc,hd]at h;cases h
     |some d =>
      rw[ha,hb,hc,hd]at h
      injection h with h
      subst h
      have:=iX ha
      have:=iX hb
      have:=iX hc
      have:=iX hd
      constructor <;>dsimp only <;>omega
 cases h
theorem Cf {nums:Bool} {t:Bytes} {l:List Int} (h:endP nums t=some l):(∀n∈l,0<=n∧n<65536)∧l.length<=2:=by
 unfold endP at h
 split at h
 ·obtain⟨v,hv,rfl⟩:=eD.mp h
  have:=vD hv
  exact⟨by simp;omega,by simp⟩
 obtain⟨v,hv,rfl⟩:=eD.mp h
 have:=rg hv
 exact⟨by simp;omega,by simp⟩
theorem tU (nums:Bool):∀ (ps:List Bytes) (l:List Int),rowP nums ps=some l->∀ n∈l,0<=n∧n<65536
 | [],l,h=>by unfold rowP at h;injection h with h;subst h;simp
 | [t],l,h=>by unfold rowP at h;exact(Cf h).1
 |t::q::r,l,h=>by
  unfold rowP at h
  cases hp:iw t with
  |none=>rw[hp]at h;cases h
  |some n =>
   rw[hp]at h
   obtain⟨v,hv,rfl⟩:=eD.mp h
   intro x hx
   rcases aN.mp hx with rfl|hx
   ·exact rg hp
   exact tU nums (q::r) v hv x hx
theorem gU {nums:Bool} {s:Bytes} {l:List Int} (h:pI nums s=some l):(∀n∈l,0<=n∧n<65536)∧l.length<=8:=by
 unfold pI at h
 split at h
 ·injection h with h;subst h;simp
 cases hr:rowP nums (dR 58 s)with
 |none=>rw[hr]at h;cases h
 |some v =>
  rw[hr]at h
  dsimp only at h
  split at h
  ·cases h
  injection h with h;subst h
  exact⟨tU _ _ _ hr,by omega⟩
theorem lr {s:Bytes} {l:List Int} (h:nO s=some l):l.length=8∧∀ n∈l,0<=n∧n<65536:=by
 unfold nO at h
 split at h
 ·cases hr:pI true s with
  |none=>rw[hr]at h;cases h
  |some v =>
   rw[hr]at h
   dsimp only at h
   split at h
   ·next h8=>injection h with h;subst h;exact⟨h8,(gU hr).1⟩
   cases h
 next a b hc =>
 split at h
 ·next l' r' hl hr =>
  split at h
  ·cases h
  next h8 =>
  injection h with h;subst h
  have h1:=gU hl
  have h2:=gU hr
  refine⟨by simp;omega,fun n hn=>?_⟩
  rcases bl.mp hn with hn|hn
  ·rcases bl.mp hn with hn|hn
   ·exact h1.1 n hn
   have:=List.eq_of_mem_replicate hn;omega
  exact h2.1 n hn
 cases h

theorem kA (b:UInt8) (l m:Bytes):Lib.cut (b::l) m=if m.isPrefixOf (b::l)then([],(b::l).drop m.length,true)else if(Lib.cut l m).2.2=true then(b::(Lib.cut l m).1,(Lib.cut l m).2.1,true)else(b::l,[],false):=by
 have hge:=Lib.index_ge l m
 have e:Lib.index (b::l) m=if m.isPrefixOf (b::l)=true then 0 else if Lib.index l m=-1 then -1 else Lib.index l m+1:=by
  rw[Lib.index];simp only[beq_iff_eq]
 by_cases h:m.isPrefixOf (b::l)=true
 ·rw[if_pos h]at e ⊢
  unfold Lib.cut
  rw[e]
  simp
 rw[if_neg h]at e ⊢
 by_cases h1:Lib.index l m=-1
 ·rw[if_pos h1]at e
  have e1:Lib.cut l m=(l,[],false):=by unfold Lib.cut;rw[h1];rfl
  have e2:Lib.cut (b::l) m=(b::l,[],false):=by unfold Lib.cut;rw[e];rfl
  rw[e1,e2];rfl
 rw[if_neg h1]at e
 have e1:Lib.cut l m=(l.take (Lib.index l m).toNat,l.drop ((Lib.index l m).toNat+m.length),true):=by unfold Lib.cut;rw[if_pos (by omega)]
 have e2:Lib.cut (b::l) m=((b::l).take (Lib.index l m+1).toNat,(b::l).drop ((Lib.index l m+1).toNat+m.length),true):=by unfold Lib.cut;rw[e,if_pos (by omega)]
 have e3:(Lib.index l m+1).toNat=(Lib.index l m).toNat+1:=by omega
 rw[e1,e2,e3,ex,Nat.add_right_comm,AS]
 rfl
theorem Ky (x y:UInt8) (r:Bytes):uR (x::y::r)=if x=58∧y=58 then some ([],r)else(uR (y::r)).map fun v=>(x::v.1,v.2):=rfl
theorem pw {c:UInt8}:∀ {s:Bytes},c∉s->Lib.cut s [c]=(s,[],false)
 | [],_=>rfl
 |b::l,h=>by
  have hb:¬ b=c:=fun e=>h (by simp[e])
  rw[kA,pw (fun a=>h (ej _ a)),if_neg (by simp[List.isPrefixOf];exact fun e=>hb e.symm),if_neg (by simp)]
theorem my {c:UInt8}:∀ {s:Bytes},c∈s->∃ p r,s=p++c::r∧c∉p∧Lib.cut s [c]=(p,r,true)
 | [],h=>absurd h (by simp)
 |b::l,h=>by
  by_cases hb:b=c
  ·subst hb
   exact⟨[],l,rfl,by simp,by rw[kA,if_pos (by simp[List.isPrefixOf])];rfl⟩
  obtain⟨p,r,h1,h2,h3⟩:=my (s:=l) (by
   rcases aN.mp h with e|e
   ·exact absurd e.symm hb
   exact e)
  refine⟨b::p,r,by rw[h1];rfl,?_,?_⟩
  ·intro e
   rcases aN.mp e with e|e
   ·exact hb e.symm
   exact h2 e
  rw[kA,h3,if_neg (by simp[List.isPrefixOf];exact fun e=>hb e.symm),if_pos rfl]
theorem tA:∀ s:Bytes,Lib.cut s [58,58]=match uR s with|none=>(s,[],false)|some v=>(v.1,v.2,true)
 | []=>rfl
 | [x]=>by
  rw[kA,if_neg (by simp[List.isPrefixOf])]
  rfl
 |x::y::r=>by
  have ih:=tA (y::r)
  rw[kA,ih,Ky]
  by_cases h:x=58∧y=58
  ·obtain⟨rfl,rfl⟩:=h
   rw[if_pos (by simp[List.isPrefixOf]),if_pos ⟨rfl,rfl⟩]
   rfl
  rw[if_neg h,if_neg]
  ·cases uR (y::r) <;>simp
  simp[List.isPrefixOf]
  exact fun a b=>h ⟨a.symm,b.symm⟩
theorem gy (l m:Bytes) (w:World) (hl:l.length<=1024000000) (hE:Env w):Calls prog 68 #[.string (bs l),.string (bs m)] w fun e w'=>e=.returned (.tuple #[S (Lib.cut l m).1,S (Lib.cut l m).2.1,.bool (Lib.cut l m).2.2])∧Below w.heap.size w w':=by
 obtain⟨_,M,hM⟩:=hE
 have h:=Any.strings_Cut laysCutAt (bs l) (bs m) M w (by rw[aB];omega) hM
 rw[show(bs l).data.toList=l from du l,show(bs m).data.toList=m from du m]at h
 refine h.mono ?_
 rintro e w' ⟨rfl,n,rfl⟩
 exact⟨rfl,dF (Below.refl _ _) n⟩
abbrev Ec:Ending:=.panicked [{v:=.iface 211 (.agg #[]),recovered:=false}]
def a3t:Option Int->Ending|some n=>.returned (.int .i64 n)|none=>Ec
def a4G:Option Int->Ending|some n=>.returned (.int .u16 n)|none=>Ec
theorem qh (b n:Int) {l:Bytes} {k:Nat} (h:k<l.length):oX b n (l.drop k)=if eF (b2 l[k]) b<0 then none else oX b (n*b+eF (b2 l[k]) b) (l.drop (k+1)):=by
 rw[ay h];rfl
theorem zm (l:Bytes) (w:World) (hl:l.length<=1024000000):Calls prog 227 #[.string (bs l)] w fun e w'=>e=a3t (fg l)∧w'=w:=by
 obtain⟨R,hR⟩:=ap (fg l)
 rw[<-hR]
 unfold fg at hR
 obtain⟨s,hs⟩:=ap (bs l)
 have hsz:s.size=l.length:=by rw[hs,aB]
 have hby:∀ k (hk:k<s.size) (hk2:k<l.length),((s[k]'hk).toNat:Int)=b2 l[k]:=fun k hk hk2=>bV hs hk hk2
 have hue:(s.toList=[]) ↔ l=[]:=by rw[hs,au]
 rw[<-hs]
 clear hs
 obtain⟨N,hN⟩:=ap (s.size)
 have jF:s.size=N:=hN.symm
 have pg:N<=1024000000:=by omega
 have mW:N=l.length:=by omega
 clear hN hsz hl
 by_cases hnil:l=[]
 ·rw[if_pos (.inl hnil)]at hR
  have he2:=hue.mpr hnil
  have he:s.toList.isEmpty=true:=by rw[he2];rfl
  clear hue hby mW
  have HR:=h_ hR;clear hR
  go_enter func227,ntmps227
  go_wp2_with fail
  exact⟨rfl,by rw[HR.out];rfl,rfl⟩
 have he2:¬ s.toList=[]:=fun h=>hnil (hue.mp h)
 have he:s.toList.isEmpty=false:=by simpa using he2
 clear hue
 by_cases h3:3<N
 ·rw[if_pos (.inr (.inl (by omega)))]at hR
  clear hby mW
  have HR:=h_ hR;clear hR
  go_enter func227,ntmps227
  go_wp2_with fail
  exact⟨rfl,by rw[HR.out];rfl,rfl⟩
 have hN0:0<N:=by have:l.length≠0:=fun e=>hnil (am e);omega
 have hs0:0<s.size:=by rw[jF];exact hN0
 have hx0:=hby 0 hs0 (by omega)
 by_cases hz:1<N∧b2 (l[0]'(by omega))=48
 ·rw[if_pos (.inr (.inr ⟨by omega,by
   rw[a5E,az (by omega)]
   exact congrArg some (dz (y:=48) (hz.2.trans (by decide)))⟩))]at hR
  rw[hz.2]at hx0
  obtain⟨h1,-⟩:=hz
  clear hby mW
  have HR:=h_ hR;clear hR
  go_enter func227,ntmps227
  go_wp2_with fail
  exact⟨rfl,by rw[HR.out];rfl,rfl⟩
 rw[if_neg (by
  rintro(h|h|⟨h,h'⟩)
  ·exact hnil h
  ·omega
  refine hz ⟨by omega,?_⟩
  rw[a5E,az (by omega)]at h'
  injection h' with h'
  rw[h'];decide)]at hR
 obtain⟨X,hX⟩:=ap (b2 (l[0]'(by omega)))
 rw[<-hX]at hx0 hz
 have hz1:1<N->(X==48)=false:=fun h=>by simp;exact fun e=>hz ⟨h,e⟩
 clear hX hz
 have HR:=h_ hR;clear hR
 have fF:=h_ hby;clear hby
 have e7:=h_ mW;clear mW
 have TK:=h_ hnil;clear hnil
 obtain⟨D0,hD0⟩:=ap (oX 10 0 l)
 have hr:=HR.out
 rw[<-hD0]at hr
 have HR:=h_ hr;clear hr
 have HD:=h_ hD0;clear hD0
 have zY:∀ k:Nat,k<=3->(10:Int) ^ k<=1000:=by
  intro k hk
  have:k=0∨k=1∨k=2∨k=3:=by omega
  rcases this with rfl|rfl|rfl|rfl <;>decide
 have WP:=h_ zY;clear zY
 by_cases h1N:1<N
 ·have hz2:=hz1 h1N
  clear hz1
  go_enter func227,ntmps227
  go_wp2_with fail
  go_loopw [3,27] (fun nv iv wr=>∃ (k:Nat) (n:Int),k<=N∧iv=.int .i64 k∧nv=.int .i64 n∧Hid (oX 10 n (l.drop k)=D0)∧0<=n∧n<10 ^ k∧w=wr) (fun _ i _=>N-(intOf i).toNat)
  case atStart=>exact⟨0,0,aO _,by simp,by simp,HD.out.symm,by omega,by decide,rfl⟩
  case round =>
   obtain⟨k,n,hk,rfl,rfl,hd,hn0,hn1,rfl⟩:=hrel
   have hp:=WP.out k (by omega)
   by_cases hlt:k<N
   ·have lV:k<s.size:=by rw[jF];exact hlt
    have hkl:k<l.length:=by have:=e7.out;omega
    have hx:=fF.out k lV hkl
    have hst:=qh 10 n hkl
    rw[hd.out]at hst
    have hr:=iD (l[k]'hkl)
    have hda:=fun W=>cY (b2 (l[k]'hkl)) 10 W hr (by omega)
    have hlo:=sG (b2 (l[k]'hkl))
    obtain⟨D,hD⟩:=ap (eF (b2 (l[k]'hkl)) 10)
    rw[<-hD]at hst hda hlo
    clear hD
    generalize b2 (l[k]'hkl)=Y at hx hr hda
    have r8:=h_ hda;clear hda hd
    by_cases hD0:D<0
    ·rw[if_pos hD0]at hst
     have hr:=HR.out
     rw[hst]at hr
     have HST:=h_ hr;clear hst hr
     have RG:=h_ hn1;clear hn1 hp
     go_wp2_with (first|(go_at_call 62;refine(r8.out _).mono ?_;rintro e w2 ⟨rfl,hw2⟩;subst hw2)|fail)
     exact⟨rfl,by rw[HST.out];rfl,rfl⟩
    rw[if_neg hD0]at hst
    have hn2:n*10+D<10 ^ (k+1):=by rw[kh];omega
    have hw1:IntKind.i64.wrap (n*10)=n*10:=IntWalk.i64_in _ (by omega)
    have hw2:IntKind.i64.wrap (n*10+D)=n*10+D:=IntWalk.i64_in _ (by omega)
    have HST:=h_ hst;clear hst
    have RG:=h_ hn1;clear hn1 hp
    have lX:=h_ hn2;clear hn2
    go_wp2_with (first|(go_at_call 62;refine(r8.out _).mono ?_;rintro e w2 ⟨rfl,hw2⟩;subst hw2)|fail)
    go_roundw
    case rel=>exact⟨k+1,n*10+D,by omega,by simp,by simp;try omega,HST.out.symm,by omega,lX.out,by trivial⟩
    case measure=>simp[intOf];omega
   obtain rfl:k=N:=by omega
   have hdr:l.drop k=[]:=bf (by have:=e7.out;omega)
   have hd1:=hd.out
   rw[hdr]at hd1
   have hr:=HR.out
   rw[show D0=some n from hd1.symm]at hr
   have HST:=h_ (show R=if 255<n then none else some n from hr);clear hd1 hr hd
   clear hn1 hp
   by_cases Lw:255<n
   ·rw[if_pos Lw]at HST
    go_wp2_with fail
    exact⟨rfl,by rw[HST.out];rfl,rfl⟩
   rw[if_neg Lw]at HST
   go_wp2_with fail
   go_ret
   exact⟨by rw[HST.out];rfl,rfl⟩
 clear hz1
 go_enter func227,ntmps227
 go_wp2_with fail
 go_loopw [3,27] (fun nv iv wr=>∃ (k:Nat) (n:Int),k<=N∧iv=.int .i64 k∧nv=.int .i64 n∧Hid (oX 10 n (l.drop k)=D0)∧0<=n∧n<10 ^ k∧w=wr) (fun _ i _=>N-(intOf i).toNat)
 case atStart=>exact⟨0,0,aO _,by simp,by simp,HD.out.symm,by omega,by decide,rfl⟩
 case round =>
  obtain⟨k,n,hk,rfl,rfl,hd,hn0,hn1,rfl⟩:=hrel
  have hp:=WP.out k (by omega)
  by_cases hlt:k<N
  ·have lV:k<s.size:=by rw[jF];exact hlt
   have hkl:k<l.length:=by have:=e7.out;omega
   have hx:=fF.out k lV hkl
   have hst:=qh 10 n hkl
   rw[hd.out]at hst
   have hr:=iD (l[k]'hkl)
   have hda:=fun W=>cY (b2 (l[k]'hkl)) 10 W hr (by omega)
   have hlo:=sG (b2 (l[k]'hkl))
   obtain⟨D,hD⟩:=ap (eF (b2 (l[k]'hkl)) 10)
   rw[<-hD]at hst hda hlo
   clear hD
   generalize b2 (l[k]'hkl)=Y at hx hr hda
   have r8:=h_ hda;clear hda hd
   by_cases hD0:D<0
   ·rw[if_pos hD0]at hst
    have hr:=HR.out
    rw[hst]at hr
    have HST:=h_ hr;clear hst hr
    have RG:=h_ hn1;clear hn1 hp
    go_wp2_with (first|(go_at_call 62;refine(r8.out _).mono ?_;rintro e w2 ⟨rfl,hw2⟩;subst hw2)|fail)
    exact⟨rfl,by rw[HST.out];rfl,rfl⟩
   rw[if_neg hD0]at hst
   have hn2:n*10+D<10 ^ (k+1):=by rw[kh];omega
   have hw1:IntKind.i64.wrap (n*10)=n*10:=IntWalk.i64_in _ (by omega)
   have hw2:IntKind.i64.wrap (n*10+D)=n*10+D:=IntWalk.i64_in _ (by omega)
   have HST:=h_ hst;clear hst
   have RG:=h_ hn1;clear hn1 hp
   have lX:=h_ hn2;clear hn2
   go_wp2_with (first|(go_at_call 62;refine(r8.out _).mono ?_;rintro e w2 ⟨rfl,hw2⟩;subst hw2)|fail)
   go_roundw
   case rel=>exact⟨k+1,n*10+D,by omega,by simp,by simp;try omega,HST.out.symm,by omega,lX.out,by trivial⟩
   case measure=>simp[intOf];omega
  obtain rfl:k=N:=by omega
  have hdr:l.drop k=[]:=bf (by have:=e7.out;omega)
  have hd1:=hd.out
  rw[hdr]at hd1
  have hr:=HR.out
  rw[show D0=some n from hd1.symm]at hr
  have HST:=h_ (show R=if 255<n then none else some n from hr);clear hd1 hr hd
  clear hn1 hp
  by_cases Lw:255<n
  ·rw[if_pos Lw]at HST
   go_wp2_with fail
   exact⟨rfl,by rw[HST.out];rfl,rfl⟩
  rw[if_neg Lw]at HST
  go_wp2_with fail
  go_ret
  exact⟨by rw[HST.out];rfl,rfl⟩

def Yd (o:Option Int) (e:Ending):Prop:=∃ m,e=.returned (.tuple #[.int .i64 m,.bool o.isSome])∧∀ v,o=some v->m=v
theorem Yd.mk {o:Option Int} {m:Int} {b:Bool} (h:(b=true∧o=some m)∨(b=false∧o=none)):Yd o (.returned (.tuple #[.int .i64 m,.bool b])):=by
 rcases h with⟨rfl,rfl⟩|⟨rfl,rfl⟩
 ·exact⟨m,rfl,fun v h=>by injection h⟩
 exact⟨m,rfl,fun v h=>by cases h⟩

theorem vX (l:Bytes) (w:World) (hl:l.length<=1024000000):Calls prog 217 #[.string (bs l)] w fun e w'=>e=a4G (iw l)∧w'=w:=by
 obtain⟨R,hR⟩:=ap (iw l)
 rw[<-hR]
 unfold iw at hR
 obtain⟨s,hs⟩:=ap (bs l)
 have hsz:s.size=l.length:=by rw[hs,aB]
 have hby:∀ k (hk:k<s.size) (hk2:k<l.length),((s[k]'hk).toNat:Int)=b2 l[k]:=fun k hk hk2=>bV hs hk hk2
 have hue:(s.toList=[]) ↔ l=[]:=by rw[hs,au]
 rw[<-hs]
 clear hs
 obtain⟨N,hN⟩:=ap (s.size)
 have jF:s.size=N:=hN.symm
 have pg:N<=1024000000:=by omega
 have mW:N=l.length:=by omega
 clear hN hsz hl
 by_cases hnil:l=[]
 ·rw[if_pos (.inl hnil)]at hR
  have he2:=hue.mpr hnil
  have he:s.toList.isEmpty=true:=by rw[he2];rfl
  clear hue hby mW
  have HR:=h_ hR;clear hR
  go_enter func217,ntmps217
  go_wp2_with fail
  exact⟨rfl,by rw[HR.out];rfl,rfl⟩
 have he2:¬ s.toList=[]:=fun h=>hnil (hue.mp h)
 have he:s.toList.isEmpty=false:=by simpa using he2
 clear hue
 by_cases h3:4<N
 ·rw[if_pos (.inr (by omega))]at hR
  clear hby mW
  have HR:=h_ hR;clear hR
  go_enter func217,ntmps217
  go_wp2_with fail
  exact⟨rfl,by rw[HR.out];rfl,rfl⟩
 rw[if_neg (by
  rintro(h|h)
  ·exact hnil h
  omega)]at hR
 have HR:=h_ hR;clear hR
 have fF:=h_ hby;clear hby
 have e7:=h_ mW;clear mW
 have TK:=h_ hnil;clear hnil
 obtain⟨D0,hD0⟩:=ap (oX 16 0 l)
 have hr:=HR.out
 rw[<-hD0]at hr
 have HR:=h_ hr;clear hr
 have HD:=h_ hD0;clear hD0
 have zY:∀ k:Nat,k<=4->(16:Int) ^ k<=65536:=by
  intro k hk
  have:k=0∨k=1∨k=2∨k=3∨k=4:=by omega
  rcases this with rfl|rfl|rfl|rfl|rfl <;>decide
 have WP:=h_ zY;clear zY
 go_enter func217,ntmps217
 go_wp2_with fail
 go_loopw [3,17] (fun nv iv wr=>∃ (k:Nat) (n:Int),k<=N∧iv=.int .i64 k∧nv=.int .i64 n∧Hid (oX 16 n (l.drop k)=D0)∧0<=n∧n<16 ^ k∧w=wr) (fun _ i _=>N-(intOf i).toNat)
 case atStart=>exact⟨0,0,aO _,by simp,by simp,HD.out.symm,by omega,by decide,rfl⟩
 case round =>
  obtain⟨k,n,hk,rfl,rfl,hd,hn0,hn1,rfl⟩:=hrel
  have hp:=WP.out k (by omega)
  by_cases hlt:k<N
  ·have lV:k<s.size:=by rw[jF];exact hlt
   have hkl:k<l.length:=by have:=e7.out;omega
   have hx:=fF.out k lV hkl
   have hst:=qh 16 n hkl
   rw[hd.out]at hst
   have hr:=iD (l[k]'hkl)
   have hda:=fun W=>cY (b2 (l[k]'hkl)) 16 W hr (by omega)
   have hlo:=xA (b2 (l[k]'hkl))
   obtain⟨D,hD⟩:=ap (eF (b2 (l[k]'hkl)) 16)
   rw[<-hD]at hst hda hlo
   clear hD
   generalize b2 (l[k]'hkl)=Y at hx hr hda
   have r8:=h_ hda;clear hda hd
   by_cases hD0:D<0
   ·rw[if_pos hD0]at hst
    have hr:=HR.out
    rw[hst]at hr
    have HST:=h_ hr;clear hst hr
    have RG:=h_ hn1;clear hn1 hp
    go_wp2_with (first|(go_at_call 62;refine(r8.out _).mono ?_;rintro e w2 ⟨rfl,hw2⟩;subst hw2)|fail)
    exact⟨rfl,by rw[HST.out];rfl,rfl⟩
   rw[if_neg hD0]at hst
   have hn2:n*16+D<16 ^ (k+1):=by rw[kh];omega
   have hw1:IntKind.i64.wrap (n*16)=n*16:=IntWalk.i64_in _ (by omega)
   have hw2:IntKind.i64.wrap (n*16+D)=n*16+D:=IntWalk.i64_in _ (by omega)
   have HST:=h_ hst;clear hst
   have RG:=h_ hn1;clear hn1 hp
   have lX:=h_ hn2;clear hn2
   go_wp2_with (first|(go_at_call 62;refine(r8.out _).mono ?_;rintro e w2 ⟨rfl,hw2⟩;subst hw2)|fail)
   go_roundw
   case rel=>exact⟨k+1,n*16+D,by omega,by simp,by simp;try omega,HST.out.symm,by omega,lX.out,by trivial⟩
   case measure=>simp[intOf];omega
  obtain rfl:k=N:=by omega
  have hdr:l.drop k=[]:=bf (by have:=e7.out;omega)
  have hd1:=hd.out
  rw[hdr]at hd1
  have hr:=HR.out
  rw[show D0=some n from hd1.symm]at hr
  have hwr:IntKind.u16.wrap n=n:=by rw[IntKind.wrap_u16];omega
  have HST:=h_ (show R=some n from hr);clear hd1 hr hd
  clear hn1 hp
  go_wp2_with fail
  go_ret
  exact⟨by rw[HST.out];rfl,rfl⟩

def xH:Nat->Int->Bytes->Option Int
 |0,n,_=>some n
 |r+1,n,s=>if(Lib.cut s [46]).2.2≠decide (0<r)then none else match fg (Lib.cut s [46]).1 with|none=>none|some d=>xH r (n*256+d) (Lib.cut s [46]).2.1
def Cm:Nat->Int->List Bytes->Option Int
 |0,n,_=>some n
 |_+1,_,[]=>none
 |r+1,n,p::ps=>if(!ps.isEmpty)≠decide (0<r)then none else match fg p with|none=>none|some d=>Cm r (n*256+d) ps
theorem vC:∀ (r:Nat) (n:Int) (s:Bytes),xH r n s=Cm r n (dR 46 s)
 |0,_,_=>rfl
 |r+1,n,s=>by
  by_cases h:(46:UInt8)∈s
  ·obtain⟨p,t,h1,h2,h3⟩:=my h
   obtain⟨q,qs,hq⟩:=iL 46 t
   have e:dR 46 s=p::dR 46 t:=by rw[h1,sA,mS h2];rfl
   unfold xH
   rw[e,h3]
   show _=if(!(dR 46 t).isEmpty)≠decide (0<r)then none else match fg p with|none=>none|some d=>Cm r (n*256+d) (dR 46 t)
   have e2:(!(dR 46 t).isEmpty)=true:=by rw[hq];rfl
   rw[e2]
   dsimp only
   split
   ·rfl
   cases fg p with
   |none=>rfl
   |some d=>exact vC r _ t
  have h3:=pw h
  have e:dR 46 s=[s]:=mS h
  unfold xH
  rw[e,h3]
  show _=if(!([]:List Bytes).isEmpty)≠decide (0<r)then none else match fg s with|none=>none|some d=>Cm r (n*256+d) []
  have e2:(!([]:List Bytes).isEmpty)=false:=rfl
  rw[e2]
  dsimp only
  by_cases hr:0<r
  ·rw[if_pos (by simp[hr]),if_pos (by simp[hr])]
  obtain rfl:r=0:=by omega
  rw[if_neg (by simp),if_neg (by simp)]
  rfl
theorem Va (l:List Bytes) (hne:l ≠ []):Cm 4 0 l=(W9 l).map fun v=>v.1*65536+v.2:=by
 have h2:∀ r n p ps,Cm (r+1) n (p::ps)=if(!ps.isEmpty)≠decide (0<r)then none else match fg p with|none=>none|some d=>Cm r (n*256+d) ps:=fun _ _ _ _=>rfl
 match l,hne with
 | [],h=>exact absurd rfl h
 | [p],_=>rw[h2];rfl
 | [p,q],_=>rw[h2,if_neg (by simp)];cases fg p <;>rfl
 | [p,q,r],_ =>
  rw[h2,if_neg (by simp)]
  cases fg p with
  |none=>rfl
  |some a =>
   dsimp only
   rw[h2,if_neg (by simp)]
   cases fg q <;>rfl
 | [p,q,r,t],_ =>
  have e:W9 [p,q,r,t]=match fg p with|none=>none|some a=>match fg q with|none=>none|some b=>match fg r with|none=>none|some c=>match fg t with|none=>none|some d=>some (256*a+b,256*c+d):=rfl
  rw[h2,if_neg (by simp),e]
  clear e
  cases fg p with
  |none=>rfl
  |some a =>
   dsimp only
   rw[h2,if_neg (by simp)]
   cases fg q with
   |none=>rfl
   |some b =>
    dsimp only
    rw[h2,if_neg (by simp)]
    cases fg r with
    |none=>rfl
    |some c =>
     dsimp only
     rw[h2,if_neg (by simp)]
     cases fg t with
     |none=>rfl
     |some d =>
      show some _=some _
      congr 1
      dsimp only
      omega
 |p::q::r::t::u::v,_ =>
  have e:W9 (p::q::r::t::u::v)=none:=rfl
  rw[h2,if_neg (by simp),e]
  cases fg p with
  |none=>rfl
  |some a =>
   dsimp only
   rw[h2,if_neg (by simp)]
   cases fg q with
   |none=>rfl
   |some b =>
    dsimp only
    rw[h2,if_neg (by simp)]
    cases fg r with
    |none=>rfl
    |some c =>
     dsimp only
     rw[h2,if_pos (by simp)]
     rfl
theorem Vb (s:Bytes):xH 4 0 s=(W8 s).map fun v=>v.1*65536+v.2:=by
 rw[vC]
 exact Va _ (by obtain⟨p,ps,h⟩:=iL 46 s;rw[h];simp)
def a3A:Option (Int×Int)->Ending|some v=>.returned (.tuple #[.int .u16 v.1,.int .u16 v.2])|none=>Ec
theorem Hj (v:Nat) (hv:v<4294967296):bits BinOp.and IntKind.i64 (v:Int) 65535=((v%65536:Nat):Int):=by
 have h:=bits_mask .i64 63 (by decide) (fun n h0 h1=>IntWalk.i64_in _ (by omega)) 16 (by decide) (v:Int) (by omega) (by omega)
 have e:((2:Int) ^ 16-1)=65535:=by decide
 have e2:((2:Int) ^ 16)=65536:=by decide
 rw[e,e2]at h
 rw[h]
 omega
theorem zi (s m:Bytes):(Lib.cut s m).2.1.length<=s.length∧(Lib.cut s m).1.length<=s.length:=by
 unfold Lib.cut
 split
 ·simp[List.length_drop,List.length_take];omega
 simp
theorem zM (l:Bytes) (w:World) (hl:l.length<=1024000000) (hE:Env w):Calls prog 216 #[.string (bs l)] w fun e w'=>e=a3A (W8 l)∧Below w.heap.size w w':=by
 have hF:=Vb l
 have hrg:∀ v,W8 l=some v->(0<=v.1∧v.1<65536)∧(0<=v.2∧v.2<65536):=fun v h=>vD h
 obtain⟨R,hR⟩:=ap (W8 l)
 rw[<-hR]at hF hrg ⊢
 clear hR
 obtain⟨s,hs⟩:=ap (bs l)
 rw[<-hs]
 have HS:=h_ hs;clear hs
 have HF:=h_ hF;clear hF
 have WQ:=h_ hrg;clear hrg
 have Oc:=h_ hE;clear hE
 have HL:=h_ hl;clear hl
 have zY:∀ k:Nat,k<=3->(256:Int) ^ k<=16777216:=by
  intro k hk
  have:k=0∨k=1∨k=2∨k=3:=by omega
  rcases this with rfl|rfl|rfl|rfl <;>decide
 have WP:=h_ zY;clear zY
 go_enter func216,ntmps216
 go_wp2_with fail
 go_loopw [0,4,9] (fun sv nv iv wr=>∃ (k:Nat) (n:Int) (t:Bytes),k<=4∧iv=.int .i64 k∧nv=.int .i64 n∧sv=.string (bs t)∧Hid (xH (4-k) n t=R.map fun v=>v.1*65536+v.2)∧Hid (t.length<=l.length)∧0<=n∧Hid (n<256 ^ k)∧Below w.heap.size w wr) (fun _ _ i _=>4-(intOf i).toNat)
 case atStart=>exact⟨0,0,l,by omega,by simp,by simp,by rw[HS.out],HF.out,ae _,by omega,(by decide:(0:Int)<256 ^ 0),Below.refl _ _⟩
 case round =>
  obtain⟨k,n,t,hk,rfl,rfl,rfl,hf,htl,hn0,hn1,hb⟩:=hrel
  have HB:=h_ hb;clear hb
  by_cases hlt:k<4
  ·have hcr:=zi t [46]
   have kK:=fun W (h:Below w.heap.size w W)=>gy t [46] W (by have:=htl.out;have:=HL.out;omega) (Oc.out.below h)
   rw[show bs [46]=⟨#[46]⟩from rfl]at kK
   have hf1:=hf.out
   rw[show 4-k=(3-k)+1 by omega]at hf1
   unfold xH at hf1
   obtain⟨c1,c2,c3,hc⟩:∃ c1 c2 c3,Lib.cut t [46]=(c1,c2,c3):=⟨_,_,_,rfl⟩
   rw[hc]at kK hf1 hcr
   dsimp only at kK hf1 hcr
   have hl1:c1.length<=1024000000:=by have:=htl.out;have:=HL.out;omega
   have hl2:c2.length<=l.length:=by have:=htl.out;omega
   have hdc:=fun W=>zm c1 W hl1
   have jO:=h_ (kK _ HB.out);clear kK hc hf
   have HL2:=h_ hl2;clear hl2 hl1 hcr htl
   obtain⟨u,hu⟩:=ap (bs t)
   rw[<-hu]at jO
   rw[<-hu]
   clear hu
   have hk3:k<3∨k=3:=by omega
   have RG:=h_ hn1.out;clear hn1
   have hp:=WP.out k (by omega)
   have EN:n<16777216:=by have:=RG.out;omega
   have hn2:∀ d:Int,d<256->n*256+d<256 ^ (k+1):=fun d hd=>by rw[kh];have:=RG.out;omega
   clear hp
   have VJ:IntKind.i64.wrap (n*256)=n*256:=IntWalk.i64_in _ (by omega)
   have lX:=h_ hn2;clear hn2
   cases c3 with
   |true =>
    rcases hk3 with hk3|rfl
    ·rw[if_neg (by simp;omega)]at hf1
     have Vy:(k:Int)<3:=by omega
     cases hdd:fg c1 with
     |none =>
      rw[hdd]at hf1 hdc
      have mq:R=none:=by cases R with|none=>rfl|some v=>cases hf1
      have gW:=h_ mq;clear mq hf1
      change ∀W,Calls _ _ _ W fun e w'=>e=Ec∧w'=W at hdc
      have OI:=h_ hdc;clear hdc hdd
      go_wp2_with (first
     |(go_at_call 68;refine(jO.out).mono ?_;rintro e w2 ⟨rfl,hb2⟩;have HB2:=h_ (HB.out.trans (hb2.mono HB.out.size));clear hb2)
     |(go_at_call 227;refine(OI.out _).mono ?_;rintro e w3 ⟨rfl,hw3⟩;subst hw3)
     |fail)
      exact⟨rfl,by rw[gW.out];rfl,HB2.out⟩
     |some d =>
      rw[hdd]at hf1 hdc
      have hdr:=iX hdd
      have Jk:=h_ (show xH (4-(k+1)) (n*256+d) c2=R.map fun v=>v.1*65536+v.2 by rw[show 4-(k+1)=3-k by omega];exact hf1);clear hf1
      change ∀W,Calls _ _ _ W fun e w'=>e=.returned (.int .i64 d)∧w'=W at hdc
      have OI:=h_ hdc;clear hdc hdd
      have a4y:IntKind.i64.wrap (n*256+d)=n*256+d:=IntWalk.i64_in _ (by omega)
      go_wp2_with (first
     |(go_at_call 68;refine(jO.out).mono ?_;rintro e w2 ⟨rfl,hb2⟩;have HB2:=h_ (HB.out.trans (hb2.mono HB.out.size));clear hb2)
     |(go_at_call 227;refine(OI.out _).mono ?_;rintro e w3 ⟨rfl,hw3⟩;subst hw3)
     |fail)
      go_roundw
      case rel=>exact⟨k+1,n*256+d,c2,by omega,by simp,by rfl,by rfl,Jk.out,HL2.out,by omega,lX.out d hdr.2,HB2.out⟩
      case measure=>simp[intOf];omega
    rw[if_pos (by simp)]at hf1
    have mq:R=none:=by cases R with|none=>rfl|some v=>cases hf1
    have gW:=h_ mq;clear mq hf1 hdc
    go_wp2_with (first
    |(go_at_call 68;refine(jO.out).mono ?_;rintro e w2 ⟨rfl,hb2⟩;have HB2:=h_ (HB.out.trans (hb2.mono HB.out.size));clear hb2)
    |(go_at_call 227;refine(OI.out _).mono ?_;rintro e w3 ⟨rfl,hw3⟩;subst hw3)
    |fail)
    exact⟨rfl,by rw[gW.out];rfl,HB2.out⟩
   |false =>
    rcases hk3 with hk3|rfl
    ·rw[if_pos (by simp;omega)]at hf1
     have Vy:(k:Int)<3:=by omega
     have mq:R=none:=by cases R with|none=>rfl|some v=>cases hf1
     have gW:=h_ mq;clear mq hf1 hdc
     go_wp2_with (first
     |(go_at_call 68;refine(jO.out).mono ?_;rintro e w2 ⟨rfl,hb2⟩;have HB2:=h_ (HB.out.trans (hb2.mono HB.out.size));clear hb2)
     |(go_at_call 227;refine(OI.out _).mono ?_;rintro e w3 ⟨rfl,hw3⟩;subst hw3)
     |fail)
     exact⟨rfl,by rw[gW.out];rfl,HB2.out⟩
    rw[if_neg (by simp)]at hf1
    cases hdd:fg c1 with
    |none =>
     rw[hdd]at hf1 hdc
     have mq:R=none:=by cases R with|none=>rfl|some v=>cases hf1
     have gW:=h_ mq;clear mq hf1
     change ∀W,Calls _ _ _ W fun e w'=>e=Ec∧w'=W at hdc
     have OI:=h_ hdc;clear hdc hdd
     go_wp2_with (first
    |(go_at_call 68;refine(jO.out).mono ?_;rintro e w2 ⟨rfl,hb2⟩;have HB2:=h_ (HB.out.trans (hb2.mono HB.out.size));clear hb2)
    |(go_at_call 227;refine(OI.out _).mono ?_;rintro e w3 ⟨rfl,hw3⟩;subst hw3)
    |fail)
     exact⟨rfl,by rw[gW.out];rfl,HB2.out⟩
    |some d =>
     rw[hdd]at hf1 hdc
     have hdr:=iX hdd
     have Jk:=h_ (show xH (4-(3+1)) (n*256+d) c2=R.map fun v=>v.1*65536+v.2 from hf1);clear hf1
     change ∀W,Calls _ _ _ W fun e w'=>e=.returned (.int .i64 d)∧w'=W at hdc
     have OI:=h_ hdc;clear hdc hdd
     have a4y:IntKind.i64.wrap (n*256+d)=n*256+d:=IntWalk.i64_in _ (by omega)
     go_wp2_with (first
    |(go_at_call 68;refine(jO.out).mono ?_;rintro e w2 ⟨rfl,hb2⟩;have HB2:=h_ (HB.out.trans (hb2.mono HB.out.size));clear hb2)
    |(go_at_call 227;refine(OI.out _).mono ?_;rintro e w3 ⟨rfl,hw3⟩;subst hw3)
    |fail)
     go_roundw
     case rel=>exact⟨3+1,n*256+d,c2,by omega,by rfl,by rfl,by rfl,Jk.out,HL2.out,by omega,lX.out d hdr.2,HB2.out⟩
     case measure=>simp[intOf]
  obtain rfl:k=4:=by omega
  have hf1:=hf.out
  have hf2:some n=R.map fun v=>v.1*65536+v.2:=hf1
  have hn4:n<4294967296:=hn1.out
  cases R with
  |none=>cases hf2
  |some v =>
   injection hf2 with hf2
   replace hf2:n=v.1*65536+v.2:=hf2
   have hr:=WQ.out v rfl
   obtain⟨N,rfl⟩:∃ N:Nat,n=N:=⟨n.toNat,by omega⟩
   have hmk:=Hj N (by omega)
   obtain⟨a,ha⟩:=ap (v.1)
   obtain⟨b,hb⟩:=ap (v.2)
   rw[<-ha,<-hb]at hr hf2
   have e1:((N%65536:Nat):Int)=b:=by omega
   rw[e1]at hmk
   have HV:=h_ (show v=(a,b) by rw[ha,hb]);clear ha hb hf hf1 hn1 e1
   have LS:IntKind.u16.wrap a=a:=by rw[IntKind.wrap_u16];omega
   have hwb:IntKind.u16.wrap b=b:=by rw[IntKind.wrap_u16];omega
   have hdv:(N:Int)/65536=a:=by omega
   have Jk:=h_ hf2;clear hf2
   go_wp2_with fail
   go_ret2
   exact⟨by rw[HV.out];rfl,HB.out⟩

abbrev cH (l:List Int):List Value:=l.map (Value.int .u16)
theorem AI:(prog.info? 24).map (fun i=>(i.zero,i.size,i.bytes))=some (some (.int .u16 0),1,2):=by kernel_rfl
theorem Tg {P:Program} {ops:Array Oper} {rest:List Oper} {o:Oper} {a:Act} {Q:Exit->Act->World->Prop} (hgd:o.guard=none) (s x:Operand) (t:TypeId)
  (ho:o.op=.call {callee:=.builtin .append,args:=#[s,x],argTypes:=#[t,t]})
  (base:Nat) (e:TypeId) (i:TypeInfo) (z:Value) (bytes:Nat) (ht:P.underlying t=some (.slice e)) (hi:P.info? e=some i) (hz:i.zero=some z)
  (hsize:i.size=1) (hby:i.bytes=bytes) (hzs:z.cells.size=1) (w:World)
  (v:Value) (n:Nat) (xs:List Value) (hs:a.eval s=v) (hown:w.ownsRow base e 1 v n xs) (u1 u2:Value) (hx:a.eval x=.slice (some ⟨w.heap.size,0,none⟩) 2 2) (h1:u1.oneCell'=true) (h2:u2.oneCell'=true)
  (h63:n+2<=1099511627776) (hbytes:bytes<=64) (hbase:base<=w.heap.size)
  (h:∀ v' w',w'.ownsRow base e 1 v' (n+2) (xs++[u1,u2])->w.heap.size<w'.heap.size->Below base w w'->wpList P ops Q rest (a.put o.dst v') w') :
  wpList P ops Q (o::rest) a (w.alloc (.cells #[u1,u2] e)):=by
 refine wpList_append_own _ hgd s x t ho base e i z 1 bytes ht hi hz hsize hby hzs (by decide) v n xs hs (hown.alloc _) ⟨w.heap.size,0,none⟩ 2 2 [u1,u2] hx rfl ?_ ?_ ?_ ?_ ?_ ?_
 ·intro j u' hj
  match j,hj with
  |0,hj=>simp at hj;subst hj;simp[Addr.add]
  |1,hj=>simp at hj;subst hj;simp[Addr.add]
 ·intro u' hu
  simp at hu
  rcases hu with rfl|rfl
  ·exact h1
  exact h2
 ·unfold maxLen;omega
 ·have:(n+2)*bytes<=(n+2)*64:=Nat.mul_le_mul_left _ hbytes
  omega
 ·simp;omega
 intro v' w' ho' hg _
 refine h v' w' ho' ?_ (((Below.refl _ _).alloc hbase _).grown hg (by simp;omega) (fun k hk=>(hown.lt k hk).1))
 have:=hg.size
 simp at this
 omega
def jh (w:World) (o:Option (List Int)):Ending->World->Prop:=fun e w'=>(match o with|some l=>∃ v,e=.returned v∧w'.ownsRow w.heap.size 24 1 v l.length (cH l)|none=>e=Ec)∧Below w.heap.size w w'
theorem jh.none {w w':World} {o:Option (List Int)} (h:o=none) (hb:Below w.heap.size w w'):jh w o Ec w':=by subst h;exact⟨rfl,hb⟩
theorem jh.some {w w':World} {o:Option (List Int)} {l:List Int} {v:Value} (h:o=some l) (hv:w'.ownsRow w.heap.size 24 1 v l.length (cH l)) (hb:Below w.heap.size w w'):jh w o (.returned v) w':=by subst h;exact⟨⟨v,rfl,hv⟩,hb⟩
theorem a4D (l:Bytes) (W:World):Calls prog 81 #[.string (bs l),.int .u8 46] W fun e w'=>e=.returned (.int .i64 (Lib.indexByte l 46))∧w'=W:=by
 have h:=Any.strings_IndexByte laysIB (bs l) 46 W
 rw[show(bs l).data.toList=l from du l]at h
 exact h
theorem L5 (l:Bytes):0<=Lib.indexByte l 46 ↔ 46∈l:=by
 rw[pp]
 unfold gK
 rw[List.any_eq_true]
 constructor
 ·rintro⟨x,hx,h⟩
  have:x=46:=dz (by simpa using h)
  exact this▸hx
 intro h
 exact⟨46,h,by simp⟩
theorem H7 (nums:Bool) {t p r:Bytes} (h:t=p++58::r) (hp:58∉p):rowP nums (dR 58 t)=match iw p with|none=>none|some n=>(rowP nums (dR 58 r)).map (n::·):=by
 obtain⟨q,qs,hq⟩:=iL 58 r
 rw[h,sA,mS hp,hq]
 rfl
theorem H5 (nums:Bool) {t:Bytes} (h:58∉t):rowP nums (dR 58 t)=endP nums t:=by
 rw[mS h];rfl
theorem dS {w:World} {base e n:Nat} {v:Value} {xs:List Value} (h:w.ownsRow base e 1 v n xs):∃ a c,v=.slice a n c:=by
 rcases h.2 with⟨rfl,rfl⟩|⟨g,cap,cur,rfl,_⟩
 ·exact⟨_,_,rfl⟩
 exact⟨_,_,rfl⟩
theorem Ns {T R:Option (List Int)} (hR:R=match T with|none=>none|some l=>if 8<l.length then none else some l) {a:List Int} {o:Option (List Int)} (hT:o.map (a++·)=T) (h:8<a.length):R=none:=by
 subst hT
 cases o with
 |none=>exact hR
 |some l=>rw[hR];simp only[uN];rw[if_pos (by rw[af];omega)]
theorem yk (l:Bytes) (nums:Bool) (w:World) (hl:l.length<=1024000000) (hE:Env w):Calls prog 207 #[.string (bs l),.bool nums] w (jh w (pI nums l)):=by
 obtain⟨i1,hi1,hz1,hz2,hz3⟩:=info_parts AI
 obtain⟨R,hR⟩:=ap (pI nums l)
 rw[<-hR]
 unfold pI at hR
 by_cases hnil:l=[]
 ·rw[if_pos hnil]at hR
  obtain⟨s,hs⟩:=ap (bs l)
  have he2:s.toList=[]:=by rw[hs,au,hnil]
  have he:s.toList.isEmpty=true:=by rw[he2];rfl
  rw[<-hs]
  clear hs hnil hl hE
  have HR:=h_ hR;clear hR
  go_enter func207,ntmps207
  go_wp2_with fail
  go_ret
  exact jh.some HR.out ⟨rfl,.inl ⟨rfl,rfl⟩⟩ (Below.refl _ _)
 rw[if_neg hnil]at hR
 obtain⟨T,hT⟩:=ap (rowP nums (dR 58 l))
 rw[<-hT]at hR
 obtain⟨s,hs⟩:=ap (bs l)
 have he2:¬ s.toList=[]:=by rw[hs,au];exact hnil
 have he:s.toList.isEmpty=false:=by simpa using he2
 rw[<-hs]
 have HS:=h_ hs;clear hs
 have HR:=h_ hR;clear hR
 have HT:=h_ hT;clear hT
 have HL:=h_ hl;clear hl
 have Oc:=h_ hE;clear hE
 clear hnil
 go_enter func207,ntmps207
 go_wp2_with fail
 go_loopw [0,5,6] (fun sv lv mv wr=>∃ (m:Bool) (t:Bytes) (a:List Int),mv=.bool m∧sv=.string (bs t)∧Hid (t.length<=l.length)∧wr.ownsRow w.heap.size 24 1 lv a.length (cH a)∧a.length<=8∧Hid ((if m then(rowP nums (dR 58 t)).map (a++·)else some a)=T)∧w.heap.size<=wr.heap.size∧Below w.heap.size w wr) (fun sv _ mv _=>match mv with | .bool true=>CT sv+1|_=>0)
 case atStart=>exact⟨true,l,[],by simp,by rw[HS.out],ae _,⟨rfl,.inl ⟨rfl,rfl⟩⟩,by simp,by rw[if_pos rfl,HT.out];cases rowP nums (dR 58 l) <;>rfl,ae _,Below.refl _ _⟩
 case round =>
  obtain⟨m,t,a,rfl,rfl,htl,hown,Oo,hinv,hwz,hb⟩:=hrel
  have HO:=h_ hown;clear hown
  have HB:=h_ hb;clear hb
  cases m with
  |false =>
   have hT:some a=T:=hinv.out
   have hRa:R=some a:=by rw[HR.out,<-hT];dsimp only;rw[if_neg (by omega)]
   have cX:=h_ hRa;clear hRa hT hinv
   go_wp2_with fail
   go_ret
   exact jh.some cX.out HO.out HB.out
  |true =>
   have cK:(rowP nums (dR 58 t)).map (a++·)=T:=hinv.out
   have htm:t.length<=1024000000:=by have:=htl.out;have:=HL.out;omega
   have kK:=fun W (h:Below w.heap.size w W)=>gy t [58] W htm (Oc.out.below h)
   rw[show bs [58]=⟨#[58]⟩from rfl]at kK
   obtain⟨u,hu⟩:=ap (bs t)
   have lG:u.size=t.length:=by rw[hu,aB]
   rw[<-hu]at kK
   rw[<-hu]
   have WU:=h_ lG;clear lG hinv
   have HU:=h_ hu;clear hu
   by_cases Cq:(58:UInt8)∈t
   ·obtain⟨p,r,hpr,hp,hlc⟩:=my Cq
    rw[hlc]at kK
    have jO:=h_ (kK _ HB.out);clear kK hlc
    rw[H7 nums hpr hp]at cK
    have hlr:p.length+r.length+1=t.length:=by rw[hpr];simp;omega
    have hpi:=fun W=>vX p W (by omega)
    have HL2:=h_ (show r.length<=l.length by have:=htl.out;omega)
    have HLR:=h_ hlr;clear hlr htl htm Cq hpr hp
    cases hpp:iw p with
    |none =>
     rw[hpp]at cK hpi
     clear hpp
     change ∀W,Calls _ _ _ W fun e w'=>e=Ec∧w'=W at hpi
     have D5:=h_ hpi;clear hpi
     have mq:R=none:=by rw[HR.out,<-cK];rfl
     have gW:=h_ mq;clear mq cK
     go_wp2_with (first
     |(go_at_call 68;refine(jO.out).mono ?_;rintro e w2 ⟨rfl,hb2⟩;have eO:=h_ (own_below HO.out hb2);have HB2:=h_ (HB.out.trans (hb2.mono HB.out.size));have nu:=aq hwz hb2.size;clear hb2)
     |(go_at_call 217;refine(D5.out _).mono ?_;rintro e w4 ⟨rfl,hw4⟩;subst hw4)
     |fail)
     exact⟨rfl,jh.none gW.out HB2.out⟩
    |some n =>
     rw[hpp]at cK hpi
     clear hpp
     replace cK:(rowP nums (dR 58 r)).map ((a++[n])++·)=T:=by
      rw[<-cK]
      cases rowP nums (dR 58 r) <;>simp
     change ∀W,Calls _ _ _ W fun e w'=>e=.returned (.int .u16 n)∧w'=W at hpi
     have D5:=h_ hpi;clear hpi
     have hao:cH a++[.int .u16 n]=cH (a++[n]):=by simp
     have TB:=h_ hao;clear hao
     obtain⟨al,hal⟩:=ap (a.length)
     have ho:=HO.out
     rw[<-hal]at ho Oo
     have HO:=h_ ho;clear ho
     by_cases h9:al+1<=8
     ·have HI2:=h_ (show(if true=true then(rowP nums (dR 58 r)).map ((a++[n])++·)else some (a++[n]))=T from cK);clear cK
      have lI:=h_ hal;clear hal
      go_wp2_with (first
      |(go_at_call 68;refine(jO.out).mono ?_;rintro e w2 ⟨rfl,hb2⟩;have eO:=h_ (own_below HO.out hb2);have HB2:=h_ (HB.out.trans (hb2.mono HB.out.size));have nu:=aq hwz hb2.size;clear hb2)
      |(go_at_call 217;refine(D5.out _).mono ?_;rintro e w4 ⟨rfl,hw4⟩;subst hw4)
      |(at_builtin;(refine ez rfl (.tmp 39) (.tmp 42) _ rfl w.heap.size 24 i1 (.int .u16 0) 2 underlying198 hi1 hz1 hz2 hz3 (by decide) _ _ _ (cH a) rfl eO.out (.int .u16 n) rfl rfl (by omega) (by decide) (by omega) ?_);intro v6 w6 hown6 Cz hb6;obtain⟨Uv,UL,hv6⟩:=dS hown6;subst hv6;have yP:=h_ hown6;clear hown6;have jB:=h_ (HB2.out.trans hb6);clear hb6)
      |fail)
      go_roundw
      case rel =>
       refine⟨true,r,a++[n],by rfl,by rfl,HL2.out,?_,by rw[af,<-lI.out];exact h9,HI2.out,by omega,jB.out⟩
       rw[af,<-lI.out,<-TB.out]
       exact yP.out
      case measure=>simp[CT,aB];have:=HLR.out;have:=WU.out;omega
     have mq:R=none:=Ns HR.out (o:=rowP nums (dR 58 r)) cK (by rw[af,<-hal];simp;omega)
     have gW:=h_ mq;clear mq cK hal
     go_wp2_with (first
     |(go_at_call 68;refine(jO.out).mono ?_;rintro e w2 ⟨rfl,hb2⟩;have eO:=h_ (own_below HO.out hb2);have HB2:=h_ (HB.out.trans (hb2.mono HB.out.size));have nu:=aq hwz hb2.size;clear hb2)
     |(go_at_call 217;refine(D5.out _).mono ?_;rintro e w4 ⟨rfl,hw4⟩;subst hw4)
     |(at_builtin;(refine ez rfl (.tmp 39) (.tmp 42) _ rfl w.heap.size 24 i1 (.int .u16 0) 2 underlying198 hi1 hz1 hz2 hz3 (by decide) _ _ _ (cH a) rfl eO.out (.int .u16 n) rfl rfl (by omega) (by decide) (by omega) ?_);intro v6 w6 hown6 Cz hb6;obtain⟨Uv,UL,hv6⟩:=dS hown6;subst hv6;have yP:=h_ hown6;clear hown6;have jB:=h_ (HB2.out.trans hb6);clear hb6)
     |fail)
     exact⟨rfl,jh.none gW.out jB.out⟩
   have hlc:=pw Cq
   rw[hlc]at kK
   have jO:=h_ (kK _ HB.out);clear kK hlc
   rw[H5 nums Cq]at cK
   clear Cq
   unfold endP at cK
   have hpi:=fun W=>vX t W htm
   have hib:=fun W=>a4D t W
   have him:=L5 t
   have hfn:=fun W (h:Below w.heap.size w W)=>zM t W htm (Oc.out.below h)
   have HL2:=h_ (show([]:Bytes).length<=l.length from aO _)
   obtain⟨I,hI⟩:=ap (Lib.indexByte t 46)
   rw[<-hI]at hib him
   have IH:=h_ hib;clear hib hI
   cases nums with
   |false =>
    rw[if_neg (by simp)]at cK
    clear him hfn IH
    cases hpp:iw t with
    |none =>
     rw[hpp]at cK hpi
     clear hpp
     change ∀W,Calls _ _ _ W fun e w'=>e=Ec∧w'=W at hpi
     have D5:=h_ hpi;clear hpi
     have mq:R=none:=by rw[HR.out,<-cK];rfl
     have gW:=h_ mq;clear mq cK
     go_wp2_with (first
          |(go_at_call 68;refine(jO.out).mono ?_;rintro e w2 ⟨rfl,hb2⟩;have eO:=h_ (own_below HO.out hb2);have HB2:=h_ (HB.out.trans (hb2.mono HB.out.size));have nu:=aq hwz hb2.size;clear hb2)
          |(go_at_call 217;refine(D5.out _).mono ?_;rintro e w4 ⟨rfl,hw4⟩;subst hw4)
          |fail)
     exact⟨rfl,jh.none gW.out HB2.out⟩
    |some n =>
     rw[hpp]at cK hpi
     clear hpp
     change ∀W,Calls _ _ _ W fun e w'=>e=.returned (.int .u16 n)∧w'=W at hpi
     have D5:=h_ hpi;clear hpi
     have hao:cH a++[.int .u16 n]=cH (a++[n]):=by simp
     have TB:=h_ hao;clear hao
     obtain⟨al,hal⟩:=ap (a.length)
     have ho:=HO.out
     rw[<-hal]at ho Oo
     have HO:=h_ ho;clear ho
     replace cK:some (a++[n])=T:=cK
     by_cases h9:al+1<=8
     ·have HI2:=h_ (show(if false=true then(rowP false (dR 58 [])).map ((a++[n])++·)else some (a++[n]))=T from cK);clear cK
      have lI:=h_ hal;clear hal
      go_wp2_with (first
          |(go_at_call 68;refine(jO.out).mono ?_;rintro e w2 ⟨rfl,hb2⟩;have eO:=h_ (own_below HO.out hb2);have HB2:=h_ (HB.out.trans (hb2.mono HB.out.size));have nu:=aq hwz hb2.size;clear hb2)
          |(go_at_call 217;refine(D5.out _).mono ?_;rintro e w4 ⟨rfl,hw4⟩;subst hw4)
          |(at_builtin;(refine ez rfl (.tmp 39) (.tmp 42) _ rfl w.heap.size 24 i1 (.int .u16 0) 2 underlying198 hi1 hz1 hz2 hz3 (by decide) _ _ _ (cH a) rfl eO.out (.int .u16 n) rfl rfl (by omega) (by decide) (by omega) ?_);intro v6 w6 hown6 Cz hb6;obtain⟨Uv,UL,hv6⟩:=dS hown6;subst hv6;have yP:=h_ hown6;clear hown6;have jB:=h_ (HB2.out.trans hb6);clear hb6)
          |fail)
      go_roundw
      case rel =>
       refine⟨false,[],a++[n],by rfl,by rfl,HL2.out,?_,by rw[af,<-lI.out];exact h9,HI2.out,by omega,jB.out⟩
       rw[af,<-lI.out,<-TB.out]
       exact yP.out
      case measure=>simp
     have mq:R=none:=by rw[HR.out,<-cK];dsimp only;rw[if_pos (by rw[af,<-hal];simp;omega)]
     have gW:=h_ mq;clear mq cK hal
     go_wp2_with (first
         |(go_at_call 68;refine(jO.out).mono ?_;rintro e w2 ⟨rfl,hb2⟩;have eO:=h_ (own_below HO.out hb2);have HB2:=h_ (HB.out.trans (hb2.mono HB.out.size));have nu:=aq hwz hb2.size;clear hb2)
         |(go_at_call 217;refine(D5.out _).mono ?_;rintro e w4 ⟨rfl,hw4⟩;subst hw4)
         |(at_builtin;(refine ez rfl (.tmp 39) (.tmp 42) _ rfl w.heap.size 24 i1 (.int .u16 0) 2 underlying198 hi1 hz1 hz2 hz3 (by decide) _ _ _ (cH a) rfl eO.out (.int .u16 n) rfl rfl (by omega) (by decide) (by omega) ?_);intro v6 w6 hown6 Cz hb6;obtain⟨Uv,UL,hv6⟩:=dS hown6;subst hv6;have yP:=h_ hown6;clear hown6;have jB:=h_ (HB2.out.trans hb6);clear hb6)
         |fail)
     exact⟨rfl,jh.none gW.out jB.out⟩
   |true =>
    by_cases h46:(46:UInt8)∈t
    ·rw[if_pos ⟨rfl,h46⟩]at cK
     have hI0:0<=I:=him.mpr h46
     clear him h46 hpi
     cases Vp:W8 t with
     |none =>
      rw[Vp]at cK hfn
      clear Vp
      change ∀W,Below w.heap.size w W->Calls _ _ _ W fun e w'=>e=Ec∧Below W.heap.size W w' at hfn
      have HFN:=h_ hfn;clear hfn
      have mq:R=none:=by rw[HR.out,<-cK];rfl
      have gW:=h_ mq;clear mq cK
      go_wp2_with (first
           |(go_at_call 68;refine(jO.out).mono ?_;rintro e w2 ⟨rfl,hb2⟩;have eO:=h_ (own_below HO.out hb2);have HB2:=h_ (HB.out.trans (hb2.mono HB.out.size));have nu:=aq hwz hb2.size;clear hb2)
           |(go_at_call 81;refine(IH.out _).mono ?_;rintro e w3 ⟨rfl,hw3⟩;subst hw3)
           |(go_at_call 216;refine(HFN.out _ HB2.out).mono ?_;rintro e w5 ⟨rfl,hb5⟩;have uE:=h_ (own_below eO.out hb5);have fK:=h_ (HB2.out.trans (hb5.mono HB2.out.size));have Z0:=aq nu hb5.size;clear hb5)
           |fail)
      exact⟨rfl,jh.none gW.out fK.out⟩
     |some v =>
      rw[Vp]at cK hfn
      clear Vp
      obtain⟨v1,v2⟩:=v
      change ∀W,Below w.heap.size w W->Calls _ _ _ W fun e w'=>e=.returned (.tuple #[.int .u16 v1,.int .u16 v2])∧Below W.heap.size W w' at hfn
      have HFN:=h_ hfn;clear hfn
      have hao:cH a++[.int .u16 v1,.int .u16 v2]=cH (a++[v1,v2]):=by simp
      have TB:=h_ hao;clear hao
      obtain⟨al,hal⟩:=ap (a.length)
      have ho:=HO.out
      rw[<-hal]at ho Oo
      have HO:=h_ ho;clear ho
      replace cK:some (a++[v1,v2])=T:=cK
      by_cases h9:al+2<=8
      ·have HI2:=h_ (show(if false=true then(rowP true (dR 58 [])).map ((a++[v1,v2])++·)else some (a++[v1,v2]))=T from cK);clear cK
       have lI:=h_ hal;clear hal
       go_wp2_with (first
           |(go_at_call 68;refine(jO.out).mono ?_;rintro e w2 ⟨rfl,hb2⟩;have eO:=h_ (own_below HO.out hb2);have HB2:=h_ (HB.out.trans (hb2.mono HB.out.size));have nu:=aq hwz hb2.size;clear hb2)
           |(go_at_call 81;refine(IH.out _).mono ?_;rintro e w3 ⟨rfl,hw3⟩;subst hw3)
           |(go_at_call 216;refine(HFN.out _ HB2.out).mono ?_;rintro e w5 ⟨rfl,hb5⟩;have uE:=h_ (own_below eO.out hb5);have fK:=h_ (HB2.out.trans (hb5.mono HB2.out.size));have Z0:=aq nu hb5.size;clear hb5)
           |(at_builtin;(refine Tg rfl (.tmp 34) (.tmp 37) _ rfl w.heap.size 24 i1 (.int .u16 0) 2 underlying198 hi1 hz1 hz2 hz3 (by decide) _ _ _ (cH a) rfl uE.out (.int .u16 v1) (.int .u16 v2) rfl rfl rfl (by omega) (by decide) (by omega) ?_);intro v6 w6 hown6 Cz hb6;obtain⟨Uv,UL,hv6⟩:=dS hown6;subst hv6;have yP:=h_ hown6;clear hown6;have jB:=h_ (fK.out.trans hb6);clear hb6)
           |fail)
       go_roundw
       case rel =>
        refine⟨false,[],a++[v1,v2],by rfl,by rfl,HL2.out,?_,by rw[af,<-lI.out];exact h9,HI2.out,by omega,jB.out⟩
        rw[af,<-lI.out,<-TB.out]
        exact yP.out
       case measure=>simp
      have mq:R=none:=by rw[HR.out,<-cK];dsimp only;rw[if_pos (by rw[af,<-hal];simp;omega)]
      have gW:=h_ mq;clear mq cK hal
      go_wp2_with (first
          |(go_at_call 68;refine(jO.out).mono ?_;rintro e w2 ⟨rfl,hb2⟩;have eO:=h_ (own_below HO.out hb2);have HB2:=h_ (HB.out.trans (hb2.mono HB.out.size));have nu:=aq hwz hb2.size;clear hb2)
          |(go_at_call 81;refine(IH.out _).mono ?_;rintro e w3 ⟨rfl,hw3⟩;subst hw3)
          |(go_at_call 216;refine(HFN.out _ HB2.out).mono ?_;rintro e w5 ⟨rfl,hb5⟩;have uE:=h_ (own_below eO.out hb5);have fK:=h_ (HB2.out.trans (hb5.mono HB2.out.size));have Z0:=aq nu hb5.size;clear hb5)
          |(at_builtin;(refine Tg rfl (.tmp 34) (.tmp 37) _ rfl w.heap.size 24 i1 (.int .u16 0) 2 underlying198 hi1 hz1 hz2 hz3 (by decide) _ _ _ (cH a) rfl uE.out (.int .u16 v1) (.int .u16 v2) rfl rfl rfl (by omega) (by decide) (by omega) ?_);intro v6 w6 hown6 Cz hb6;obtain⟨Uv,UL,hv6⟩:=dS hown6;subst hv6;have yP:=h_ hown6;clear hown6;have jB:=h_ (fK.out.trans hb6);clear hb6)
          |fail)
      exact⟨rfl,jh.none gW.out jB.out⟩
    rw[if_neg (fun a=>h46 a.2)]at cK
    have hI0:I<0:=Int.not_le.mp (fun h=>h46 (him.mp h))
    clear him hfn
    cases hpp:iw t with
    |none =>
     rw[hpp]at cK hpi
     clear hpp
     change ∀W,Calls _ _ _ W fun e w'=>e=Ec∧w'=W at hpi
     have D5:=h_ hpi;clear hpi
     have mq:R=none:=by rw[HR.out,<-cK];rfl
     have gW:=h_ mq;clear mq cK
     go_wp2_with (first
          |(go_at_call 68;refine(jO.out).mono ?_;rintro e w2 ⟨rfl,hb2⟩;have eO:=h_ (own_below HO.out hb2);have HB2:=h_ (HB.out.trans (hb2.mono HB.out.size));have nu:=aq hwz hb2.size;clear hb2)
          |(go_at_call 81;refine(IH.out _).mono ?_;rintro e w3 ⟨rfl,hw3⟩;subst hw3)
          |(go_at_call 217;refine(D5.out _).mono ?_;rintro e w4 ⟨rfl,hw4⟩;subst hw4)
          |fail)
     exact⟨rfl,jh.none gW.out HB2.out⟩
    |some n =>
     rw[hpp]at cK hpi
     clear hpp
     change ∀W,Calls _ _ _ W fun e w'=>e=.returned (.int .u16 n)∧w'=W at hpi
     have D5:=h_ hpi;clear hpi
     have hao:cH a++[.int .u16 n]=cH (a++[n]):=by simp
     have TB:=h_ hao;clear hao
     obtain⟨al,hal⟩:=ap (a.length)
     have ho:=HO.out
     rw[<-hal]at ho Oo
     have HO:=h_ ho;clear ho
     replace cK:some (a++[n])=T:=cK
     by_cases h9:al+1<=8
     ·have HI2:=h_ (show(if false=true then(rowP true (dR 58 [])).map ((a++[n])++·)else some (a++[n]))=T from cK);clear cK
      have lI:=h_ hal;clear hal
      go_wp2_with (first
          |(go_at_call 68;refine(jO.out).mono ?_;rintro e w2 ⟨rfl,hb2⟩;have eO:=h_ (own_below HO.out hb2);have HB2:=h_ (HB.out.trans (hb2.mono HB.out.size));have nu:=aq hwz hb2.size;clear hb2)
          |(go_at_call 81;refine(IH.out _).mono ?_;rintro e w3 ⟨rfl,hw3⟩;subst hw3)
          |(go_at_call 217;refine(D5.out _).mono ?_;rintro e w4 ⟨rfl,hw4⟩;subst hw4)
          |(at_builtin;(refine ez rfl (.tmp 39) (.tmp 42) _ rfl w.heap.size 24 i1 (.int .u16 0) 2 underlying198 hi1 hz1 hz2 hz3 (by decide) _ _ _ (cH a) rfl eO.out (.int .u16 n) rfl rfl (by omega) (by decide) (by omega) ?_);intro v6 w6 hown6 Cz hb6;obtain⟨Uv,UL,hv6⟩:=dS hown6;subst hv6;have yP:=h_ hown6;clear hown6;have jB:=h_ (HB2.out.trans hb6);clear hb6)
          |fail)
      go_roundw
      case rel =>
       refine⟨false,[],a++[n],by rfl,by rfl,HL2.out,?_,by rw[af,<-lI.out];exact h9,HI2.out,by omega,jB.out⟩
       rw[af,<-lI.out,<-TB.out]
       exact yP.out
      case measure=>simp
     have mq:R=none:=by rw[HR.out,<-cK];dsimp only;rw[if_pos (by rw[af,<-hal];simp;omega)]
     have gW:=h_ mq;clear mq cK hal
     go_wp2_with (first
         |(go_at_call 68;refine(jO.out).mono ?_;rintro e w2 ⟨rfl,hb2⟩;have eO:=h_ (own_below HO.out hb2);have HB2:=h_ (HB.out.trans (hb2.mono HB.out.size));have nu:=aq hwz hb2.size;clear hb2)
         |(go_at_call 81;refine(IH.out _).mono ?_;rintro e w3 ⟨rfl,hw3⟩;subst hw3)
         |(go_at_call 217;refine(D5.out _).mono ?_;rintro e w4 ⟨rfl,hw4⟩;subst hw4)
         |(at_builtin;(refine ez rfl (.tmp 39) (.tmp 42) _ rfl w.heap.size 24 i1 (.int .u16 0) 2 underlying198 hi1 hz1 hz2 hz3 (by decide) _ _ _ (cH a) rfl eO.out (.int .u16 n) rfl rfl (by omega) (by decide) (by omega) ?_);intro v6 w6 hown6 Cz hb6;obtain⟨Uv,UL,hv6⟩:=dS hown6;subst hv6;have yP:=h_ hown6;clear hown6;have jB:=h_ (HB2.out.trans hb6);clear hb6)
         |fail)
     exact⟨rfl,jh.none gW.out jB.out⟩

def Pc (w:World) (o:Option (List Int)):Ending->World->Prop:=fun e w'=>(match o with|some l=>∃ v,e=.returned (.tuple #[v,.bool true])∧w'.ownsRow w.heap.size 3 1 v l.length (dw l)|none=>e=.returned (.tuple #[.slice none 0 0,.bool false]))∧Below w.heap.size w w'
theorem Pc.none {w w':World} {o:Option (List Int)} (h:o=none) (hb:Below w.heap.size w w'):Pc w o (.returned (.tuple #[.slice none 0 0,.bool false])) w':=by subst h;exact⟨rfl,hb⟩
theorem Pc.some {w w':World} {o:Option (List Int)} {l:List Int} {v:Value} (h:o=some l) (hv:w'.ownsRow w.heap.size 3 1 v l.length (dw l)) (hb:Below w.heap.size w w'):Pc w o (.returned (.tuple #[v,.bool true])) w':=by subst h;exact⟨⟨v,rfl,hv⟩,hb⟩

theorem at3 (w:World) (a b c:Value) (e:TypeId):At (w.alloc (.cells #[a,b,c] e)) w.heap.size 0 [a,b,c]:=by
 intro j hj
 rw[bk,World.cell?_alloc_mark]
 match j,hj with
 |0,_=>rfl
 |1,_=>rfl
 |2,_=>rfl

theorem yF (w:World) (a:Value) (e:TypeId):At (w.alloc (.cells #[a] e)) w.heap.size 0 [a]:=by
 intro j hj
 rw[bk,World.cell?_alloc_mark]
 match j,hj with
 |0,_=>rfl
end Go.Proofs.YtmndlfglgcioeaaGreatDoor
