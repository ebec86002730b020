/- Joined texts. -/
import Derived.Test.YtpbnfjdkdfombaaGreatDoorGFouA
set_option maxHeartbeats 40000000
namespace Go.Proofs.YtpbnfjdkdfombaaGreatDoor
open Tryz
open Go.RowKit
set_option maxRecDepth 10000
def qK(b:Int):Int->O->Option Int
 |n,[]=>some n
 |n,c::t=>if fg (G c) b<0 then none else qK b (n*b+fg (G c) b) t
def jE(s:O):Option Int:=if s=[]\/4<s.length then none else qK 16 0 s
def gd(s:O):Option Int :=
 if s=[]\/3<s.length\/(1<s.length/\s.head? = some 48)then none
 else match qK 10 0 s with|none=>none|some n=>if 255<n then none else some n
def fnL:List O->Option (Int×Int)
 | [p,q,r,t]=>match gd p with|none=>none|some a=>match gd q with|none=>none|some b=>match gd r with|none=>none|some c=>match gd t with|none=>none|some d=>some (256*a+b,256*c+d)
 |_=>none
def fnF(s:O):Option (Int×Int):=fnL (ep 46 s)
def endP(nums:Bool)(t:O):Option (List Int):=if nums=true/\46∈t then(fnF t).map (λv=>[v.1,v.2])else(jE t).map (λn=>[n])
def rowP(nums:Bool):List O->Option (List Int)
 | []=>some []
 | [t]=>endP nums t
 |t::q::r=>match jE t with|none=>none|some n=>(rowP nums (q::r)).map (n::·)
def rm(nums:Bool)(s:O):Option (List Int) :=
 if s=[]then some []else match rowP nums (ep 58 s)with|none=>none|some l=>if 8<l.length then none else some l
def xE:O->Option (O×O)
 |x::y::r=>if x=58/\y=58 then some ([],r)else(xE (y::r)).map λv=>(x::v.1,v.2)
 |_=>none
def pK(s:O):Option (List Int) :=
 match xE s with
 |none=>match rm true s with|none=>none|some l=>if l.length=8 then some l else none
 |some (a,b)=>match rm false a,rm true b with
  |some l,some r=>if 8<=l.length+r.length then none else some (l++List.replicate (8-l.length-r.length) 0++r)
  |_,_=>none
theorem pS(b:Int)(U:1<=b)(hd:∀ c,fg c b<b):∀ (l:O) (n v:Int) (m:Nat),0<=n->n<b ^ m->qK b n l=some v->0<=v/\v<b ^ (m+l.length)
 | [],n,v,m,h,I,e=>by unfold qK at e;injection e with e;subst e;exact⟨h,by simpa using I⟩
 |c::t,n,v,m,h,I,e=>by
  unfold qK at e
  split at e
  ·cases e
  next hc =>
  have h3:=eh h (show 0<=b by omega);have h4:(n+1)*b<=b ^ m*b:=eK M0 M0;rw[b5r,Int.one_mul]at h4;have h5:=hd (G c);have:=pS b U hd t _ v (m+1) M0 (by rw[lq];omega) e;rw[show m+1+t.length=m+(c::t).length by simp;omega]at this;exact this
theorem a1g(c:Int):fg c 10<10:=by unfold fg;simp only;split <;>omega
theorem tD{t:O}{n:Int}(h:jE t=some n):0<=n/\n<65536:=by
 unfold jE at h
 split at h
 ·cases h
 next hc =>
 have:=pS 16 M0 zX t 0 n 0 M0 P8 h;refine⟨this.1,?_⟩
 have h4:t.length=1\/t.length=2\/t.length=3\/t.length=4:=by
  have:t.length≠0:=λe=>hc (.inl (az e));omega
 have I:=this.2;rcases h4 with e|e|e|e <;>rw[e]at I <;>simp at I <;>omega
theorem kg{t:O}{n:Int}(h:gd t=some n):0<=n/\n<256:=by
 unfold gd at h
 split at h
 ·cases h
 cases hd:qK 10 0 t with
 |none=>rw[hd]at h;cases h
 |some v =>
  rw[hd]at h;dsimp only at h
  split at h
  ·cases h
  injection h with h
  have:=pS 10 M0 a1g t 0 v 0 M0 P8 hd;omega
theorem yt{l:List O}{v:Int×Int}(h:fnL l=some v):(0<=v.1/\v.1<65536)/\(0<=v.2/\v.2<65536):=by
 unfold fnL at h
 split at h
 ·next p q r t =>
  cases ha:gd p with
  |none=>rw[ha]at h;cases h
  |some a =>
   cases U:gd q with
   |none=>rw[ha,U]at h;cases h
   |some b =>
    cases hc:gd r with
    |none=>rw[ha,U,hc]at h;cases h
    |some c =>
     cases hd:gd t with
     |none=>rw[ha,U,hc,hd]at h;cases h
     |some d =>
      rw[ha,U,hc,hd]at h;injection h with h
      subst h;have:=kg ha;have:=kg U;have:=kg hc;have:=kg hd;constructor <;>dsimp only <;>omega
 cases h
theorem FA{nums:Bool}{t:O}{l:List Int}(h:endP nums t=some l):(∀n∈l,0<=n/\n<65536)/\l.length<=2:=by
 unfold endP at h
 split at h
 ·obtain⟨v,hv,rfl⟩:=cY.mp h
  have:=yt hv;exact⟨by simp;omega,Oc⟩
 obtain⟨v,hv,rfl⟩:=cY.mp h;have:=tD hv;exact⟨by simp;omega,Oc⟩
theorem wE(nums:Bool):∀ (ps:List O) (l:List Int),rowP nums ps=some l->∀ n∈l,0<=n/\n<65536
 | [],l,h=>by unfold rowP at h;injection h with h;subst h;simp
 | [t],l,h=>by unfold rowP at h;exact(FA h).1
 |t::q::r,l,h=>by
  unfold rowP at h;cases hp:jE t with
  |none=>rw[hp]at h;cases h
  |some n =>
   rw[hp]at h;obtain⟨v,hv,rfl⟩:=cY.mp h;intro x X;rcases aK.mp X with rfl|X
   ·exact tD hp
   exact wE nums (q::r) v hv x X
theorem jf{nums:Bool}{s:O}{l:List Int}(h:rm nums s=some l):(∀n∈l,0<=n/\n<65536)/\l.length<=8:=by
 unfold rm at h
 split at h
 ·injection h with h;subst h;simp
 cases hr:rowP nums (ep 58 s)with
 |none=>rw[hr]at h;cases h
 |some v =>
  rw[hr]at h;dsimp only at h
  split at h
  ·cases h
  injection h with h;subst h
  exact⟨wE _ _ _ hr,M0⟩
theorem mT{s:O}{l:List Int}(h:pK s=some l):l.length=8/\∀ n∈l,0<=n/\n<65536:=by
 unfold pK at h
 split at h
 ·cases hr:rm true s with
  |none=>rw[hr]at h;cases h
  |some v =>
   rw[hr]at h;dsimp only at h
   split at h
   ·next h8=>injection h with h;subst h;exact⟨h8,(jf hr).1⟩
   cases h
 next a b hc =>
 split at h
 ·next l' r' hl hr =>
  split at h
  ·cases h
  next h8 =>
  injection h with h;subst h
  have Y:=jf hl;have I:=jf hr;refine⟨by simp;omega,λn hn=>?_⟩;rcases bO.mp hn with hn|hn
  ·rcases bO.mp hn with hn|hn
   ·exact Y.1 n hn
   have:=List.eq_of_mem_replicate hn;omega
  exact I.1 n hn
 cases h

theorem lN(b:UInt8)(l m:O):Lib.cut (b::l) m=if m.isPrefixOf (b::l)then([],(b::l).drop m.length,true)else if(Lib.cut l m).2.2=true then(b::(Lib.cut l m).1,(Lib.cut l m).2.1,true)else(b::l,[],false):=by
 have hge:=Lib.index_ge l m
 have e:Lib.index (b::l) m=if m.isPrefixOf (b::l)=true then 0 else if Lib.index l m=-1 then -1 else Lib.index l m+1:=by
  rw[Lib.index];simp only[beq_iff_eq]
 by_cases h:m.isPrefixOf (b::l)=true
 ·rw[if_pos h]at e ⊢
  unfold Lib.cut;rw[e];simp
 rw[if_neg h]at e ⊢;by_cases Y:Lib.index l m=-1
 ·rw[if_pos Y]at e
  have e1:Lib.cut l m=(l,[],false):=by unfold Lib.cut;rw[Y];rfl
  have e2:Lib.cut (b::l) m=(b::l,[],false):=by unfold Lib.cut;rw[e];rfl
  rw[e1,e2];rfl
 rw[if_neg Y]at e;have e1:Lib.cut l m=(l.take (Lib.index l m).toNat,l.drop ((Lib.index l m).toNat+m.length),true):=by unfold Lib.cut;rw[if_pos M0]
 have e2:Lib.cut (b::l) m=((b::l).take (Lib.index l m+1).toNat,(b::l).drop ((Lib.index l m+1).toNat+m.length),true):=by unfold Lib.cut;rw[e,if_pos M0]
 have e3:(Lib.index l m+1).toNat=(Lib.index l m).toNat+1:=M0;rw[e1,e2,e3,dM,Nat.add_right_comm,Ej];rfl
theorem Ox(x y:UInt8)(r:O):xE (x::y::r)=if x=58/\y=58 then some ([],r)else(xE (y::r)).map λv=>(x::v.1,v.2):=rfl
theorem q7{c:UInt8}:∀ {s:O},c∉s->Lib.cut s [c]=(s,[],false)
 | [],_=>rfl
 |b::l,h=>by
  have U:¬ b=c:=λe=>h (by simp[e]);rw[lN,q7 (λa=>h (cN _ a)),if_neg (by simp[List.isPrefixOf];exact λe=>U e.symm),if_neg Oc]
theorem ou{c:UInt8}:∀ {s:O},c∈s->∃ p r,s=p++c::r/\c∉p/\Lib.cut s [c]=(p,r,true)
 | [],h=>absurd h Oc
 |b::l,h=>by
  by_cases U:b=c
  ·subst U
   exact⟨[],l,rfl,Oc,by rw[lN,if_pos (by simp[List.isPrefixOf])];rfl⟩
  obtain⟨p,r,Y,I,h3⟩:=ou (s:=l) (by
   rcases aK.mp h with e|e
   ·exact absurd e.symm U
   exact e)
  refine⟨b::p,r,by rw[Y];rfl,?_,?_⟩
  ·intro e
   rcases aK.mp e with e|e
   ·exact U e.symm
   exact I e
  rw[lN,h3,if_neg (by simp[List.isPrefixOf];exact λe=>U e.symm),if_pos rfl]
theorem vQ:∀ s:O,Lib.cut s [58,58]=match xE s with|none=>(s,[],false)|some v=>(v.1,v.2,true)
 | []=>rfl
 | [x]=>by
  rw[lN,if_neg (by simp[List.isPrefixOf])];rfl
 |x::y::r=>by
  have ih:=vQ (y::r);rw[lN,ih,Ox];by_cases h:x=58/\y=58
  ·obtain⟨rfl,rfl⟩:=h
   rw[if_pos (by simp[List.isPrefixOf]),if_pos ⟨rfl,rfl⟩];rfl
  rw[if_neg h,if_neg]
  ·cases xE (y::r) <;>simp
  simp[List.isPrefixOf];exact λa b=>h ⟨a.symm,b.symm⟩
theorem gK(l m:O)(w:H)(hl:l.length<=1024000000)(hE:Env w):bF prog 63 #[.string (E l),.string (E m)] w (.tuple #[S (Lib.cut l m).1,S (Lib.cut l m).2.1,.bool (Lib.cut l m).2.2]):=by
 obtain⟨_,M,hM⟩:=hE;have h:=Any.strings_Cut laysCutAt (E l) (E m) M w (by rw[aF];omega) hM;rw[show(E l).data.toList=l from cW l,show(E m).data.toList=m from cW m]at h;refine h.m ?_;rintro e w' ⟨rfl,n,rfl⟩;exact⟨rfl,ft (Below.refl _ _) n⟩
abbrev H9:Ending:=.panicked [{v:=.iface 234 (.agg #[]),recovered:=false}]
def a8O:Option Int->Ending|some n=>.returned (.int .i64 n)|none=>H9
def b0h:Option Int->Ending|some n=>.returned (.int .u16 n)|none=>H9
theorem sa(b n:Int){l:O}{k:Nat}(h:k<l.length):qK b n (l.drop k)=if fg (G l[k]) b<0 then none else qK b (n*b+fg (G l[k]) b) (l.drop (k+1)):=by
 rw[aC h];rfl
theorem Cb(l:O)(w:H)(hl:l.length<=1024000000):Calls prog 246 #[.string (E l)] w λe w'=>e=a8O (gd l)/\w'=w:=by
 obtain⟨R,hR⟩:=V (gd l);rw[<-hR];unfold gd at hR;obtain⟨s,hs⟩:=V (E l);have hsz:s.size=l.length:=by rw[hs,aF]
 have hby:∀ k (hk:k<s.size) (hk2:k<l.length),((s[k]'hk).toNat:Int)=G l[k]:=λk hk hk2=>cy hs hk hk2;have hue:(s.toList=[]) ↔ l=[]:=by rw[hs,aB]
 rw[<-hs];clear hs;obtain⟨N,hN⟩:=V (s.size);have iP:s.size=N:=hN.symm;have oP:N<=1024000000:=M0;have mc:N=l.length:=M0;clear hN hsz hl;by_cases hnil:l=[]
 ·rw[if_pos (.inl hnil)]at hR
  have he2:=hue.mpr hnil;have he:s.toList.isEmpty=true:=by rw[he2];rfl
  clear hue hby mc;have HR:=F hR;clear hR;go_enter func246,ntmps246;go_wp2_with fail;exact⟨rfl,by rw[HR.o];rfl,rfl⟩
 have he2:¬ s.toList=[]:=λh=>hnil (hue.mp h);have he:s.toList.isEmpty=false:=by simpa using he2
 clear hue;by_cases h3:3<N
 ·rw[if_pos (.inr (.inl M0))]at hR
  clear hby mc;have HR:=F hR;clear hR;go_enter func246,ntmps246;go_wp2_with fail;exact⟨rfl,by rw[HR.o];rfl,rfl⟩
 have hN0:0<N:=by have:l.length≠0:=λe=>hnil (az e);omega
 have hs0:0<s.size:=by rw[iP];exact hN0
 have hx0:=hby 0 hs0 M0;by_cases hz:1<N/\G (l[0]' M0)=48
 ·rw[if_pos (.inr (.inr ⟨M0,by
   rw[b1n,aG M0];exact congrArg some (eX (y:=48) (hz.2.trans P8))⟩))]at hR
  rw[hz.2]at hx0;obtain⟨Y,-⟩:=hz;clear hby mc;have HR:=F hR;clear hR;go_enter func246,ntmps246;go_wp2_with fail;exact⟨rfl,by rw[HR.o];rfl,rfl⟩
 rw[if_neg (by
  rintro(h|h|⟨h,h'⟩)
  ·exact hnil h
  ·omega
  refine hz ⟨M0,?_⟩;rw[b1n,aG M0]at h';injection h' with h'
  rw[h'];decide)]at hR
 obtain⟨X',hX⟩:=V (G (l[0]' M0));rw[<-hX]at hx0 hz;have hz1:1<N->(X'==48)=false:=λh=>by simp;exact λe=>hz ⟨h,e⟩
 clear hX hz;have HR:=F hR;clear hR;have iV:=F hby;clear hby;have eM:=F mc;clear mc;have Yy:=F hnil;clear hnil;obtain⟨D0,hD0⟩:=V (qK 10 0 l);have hr:=HR.o;rw[<-hD0]at hr;have HR:=F hr;clear hr;have HD:=F hD0;clear hD0
 have CQ:∀ k:Nat,k<=3->(10:Int) ^ k<=1000:=by
  intro k hk;have:k=0\/k=1\/k=2\/k=3:=M0;rcases this with rfl|rfl|rfl|rfl <;>decide
 have HPW:=F CQ;clear CQ;by_cases h1N:1<N
 ·have hz2:=hz1 h1N
  clear hz1;go_enter func246,ntmps246;go_wp2_with fail
  go_loopw [3,27] (λnv iv wr=>∃ (k:Nat) (n:Int),k<=N/\iv=.int .i64 k/\nv=.int .i64 n/\Hid (qK 10 n (l.drop k)=D0)/\0<=n/\n<10 ^ k/\w=wr) (λ_ i _=>N-(intOf i).toNat)
  case atStart=>exact⟨0,0,aL _,Oc,Oc,HD.o.symm,M0,P8,rfl⟩
  case round =>
   obtain⟨k,n,hk,rfl,rfl,hd,hn0,hn1,rfl⟩:=hrel;have hp:=HPW.o k M0;by_cases hlt:k<N
   ·have mf:k<s.size:=by rw[iP];exact hlt
    have hkl:k<l.length:=by have:=eM.o;omega
    have X:=iV.o k mf hkl;have hst:=sa 10 n hkl;rw[hd.o]at hst;have hr:=jL (l[k]'hkl);have hda:=λW=>dm (G (l[k]'hkl)) 10 W hr M0;have hlo:=a1g (G (l[k]'hkl));obtain⟨D,hD⟩:=V (fg (G (l[k]'hkl)) 10);rw[<-hD]at hst hda hlo;clear hD;generalize G (l[k]'hkl)=Y' at X hr hda;have rN:=F hda;clear hda hd;by_cases hD0:D<0
    ·rw[if_pos hD0]at hst
     have hr:=HR.o;rw[hst]at hr;have HST:=F hr;clear hst hr;have J6:=F hn1;clear hn1 hp
     go_wp2_with (first|(go_at_call 90;refine(rN.o _).m ?_;rintro e w2 ⟨rfl,hw2⟩;subst hw2))
     exact⟨rfl,by rw[HST.o];rfl,rfl⟩
    rw[if_neg hD0]at hst;have hn2:n*10+D<10 ^ (k+1):=by rw[lq];omega
    have hw1:IntKind.i64.wrap (n*10)=n*10:=IntWalk.i64_in _ M0;have hw2:IntKind.i64.wrap (n*10+D)=n*10+D:=IntWalk.i64_in _ M0;have HST:=F hst;clear hst;have J6:=F hn1;clear hn1 hp;have mh:=F hn2;clear hn2
    go_wp2_with (first|(go_at_call 90;refine(rN.o _).m ?_;rintro e w2 ⟨rfl,hw2⟩;subst hw2))
    go_roundw
    case rel=>exact⟨k+1,n*10+D,M0,Oc,by simp;try omega,HST.o.symm,M0,mh.o,by trivial⟩
    case measure=>simp[intOf];omega
   obtain rfl:k=N:=M0;have hdr:l.drop k=[]:=bE (by have:=eM.o;omega);have hd1:=hd.o;rw[hdr]at hd1;have hr:=HR.o;rw[show D0=some n from hd1.symm]at hr;have HST:=F (show R=if 255<n then none else some n from hr);clear hd1 hr hd;clear hn1 hp;by_cases Pw:255<n
   ·rw[if_pos Pw]at HST
    go_wp2_with fail;exact⟨rfl,by rw[HST.o];rfl,rfl⟩
   rw[if_neg Pw]at HST;go_wp2_with fail;go_ret;exact⟨by rw[HST.o];rfl,rfl⟩
 clear hz1;go_enter func246,ntmps246;go_wp2_with fail
 go_loopw [3,27] (λnv iv wr=>∃ (k:Nat) (n:Int),k<=N/\iv=.int .i64 k/\nv=.int .i64 n/\Hid (qK 10 n (l.drop k)=D0)/\0<=n/\n<10 ^ k/\w=wr) (λ_ i _=>N-(intOf i).toNat)
 case atStart=>exact⟨0,0,aL _,Oc,Oc,HD.o.symm,M0,P8,rfl⟩
 case round =>
  obtain⟨k,n,hk,rfl,rfl,hd,hn0,hn1,rfl⟩:=hrel;have hp:=HPW.o k M0;by_cases hlt:k<N
  ·have mf:k<s.size:=by rw[iP];exact hlt
   have hkl:k<l.length:=by have:=eM.o;omega
   have X:=iV.o k mf hkl;have hst:=sa 10 n hkl;rw[hd.o]at hst;have hr:=jL (l[k]'hkl);have hda:=λW=>dm (G (l[k]'hkl)) 10 W hr M0;have hlo:=a1g (G (l[k]'hkl));obtain⟨D,hD⟩:=V (fg (G (l[k]'hkl)) 10);rw[<-hD]at hst hda hlo;clear hD;generalize G (l[k]'hkl)=Y' at X hr hda;have rN:=F hda;clear hda hd;by_cases hD0:D<0
   ·rw[if_pos hD0]at hst
    have hr:=HR.o;rw[hst]at hr;have HST:=F hr;clear hst hr;have J6:=F hn1;clear hn1 hp
    go_wp2_with (first|(go_at_call 90;refine(rN.o _).m ?_;rintro e w2 ⟨rfl,hw2⟩;subst hw2))
    exact⟨rfl,by rw[HST.o];rfl,rfl⟩
   rw[if_neg hD0]at hst;have hn2:n*10+D<10 ^ (k+1):=by rw[lq];omega
   have hw1:IntKind.i64.wrap (n*10)=n*10:=IntWalk.i64_in _ M0;have hw2:IntKind.i64.wrap (n*10+D)=n*10+D:=IntWalk.i64_in _ M0;have HST:=F hst;clear hst;have J6:=F hn1;clear hn1 hp;have mh:=F hn2;clear hn2
   go_wp2_with (first|(go_at_call 90;refine(rN.o _).m ?_;rintro e w2 ⟨rfl,hw2⟩;subst hw2))
   go_roundw
   case rel=>exact⟨k+1,n*10+D,M0,Oc,by simp;try omega,HST.o.symm,M0,mh.o,by trivial⟩
   case measure=>simp[intOf];omega
  obtain rfl:k=N:=M0;have hdr:l.drop k=[]:=bE (by have:=eM.o;omega);have hd1:=hd.o;rw[hdr]at hd1;have hr:=HR.o;rw[show D0=some n from hd1.symm]at hr;have HST:=F (show R=if 255<n then none else some n from hr);clear hd1 hr hd;clear hn1 hp;by_cases Pw:255<n
  ·rw[if_pos Pw]at HST
   go_wp2_with fail;exact⟨rfl,by rw[HST.o];rfl,rfl⟩
  rw[if_neg Pw]at HST;go_wp2_with fail;go_ret;exact⟨by rw[HST.o];rfl,rfl⟩

theorem yR(l:O)(w:H)(hl:l.length<=1024000000):Calls prog 236 #[.string (E l)] w λe w'=>e=b0h (jE l)/\w'=w:=by
 obtain⟨R,hR⟩:=V (jE l);rw[<-hR];unfold jE at hR;obtain⟨s,hs⟩:=V (E l);have hsz:s.size=l.length:=by rw[hs,aF]
 have hby:∀ k (hk:k<s.size) (hk2:k<l.length),((s[k]'hk).toNat:Int)=G l[k]:=λk hk hk2=>cy hs hk hk2;have hue:(s.toList=[]) ↔ l=[]:=by rw[hs,aB]
 rw[<-hs];clear hs;obtain⟨N,hN⟩:=V (s.size);have iP:s.size=N:=hN.symm;have oP:N<=1024000000:=M0;have mc:N=l.length:=M0;clear hN hsz hl;by_cases hnil:l=[]
 ·rw[if_pos (.inl hnil)]at hR
  have he2:=hue.mpr hnil;have he:s.toList.isEmpty=true:=by rw[he2];rfl
  clear hue hby mc;have HR:=F hR;clear hR;go_enter func236,ntmps236;go_wp2_with fail;exact⟨rfl,by rw[HR.o];rfl,rfl⟩
 have he2:¬ s.toList=[]:=λh=>hnil (hue.mp h);have he:s.toList.isEmpty=false:=by simpa using he2
 clear hue;by_cases h3:4<N
 ·rw[if_pos (.inr M0)]at hR
  clear hby mc;have HR:=F hR;clear hR;go_enter func236,ntmps236;go_wp2_with fail;exact⟨rfl,by rw[HR.o];rfl,rfl⟩
 rw[if_neg (by
  rintro(h|h)
  ·exact hnil h
  omega)]at hR
 have HR:=F hR;clear hR;have iV:=F hby;clear hby;have eM:=F mc;clear mc;have Yy:=F hnil;clear hnil;obtain⟨D0,hD0⟩:=V (qK 16 0 l);have hr:=HR.o;rw[<-hD0]at hr;have HR:=F hr;clear hr;have HD:=F hD0;clear hD0
 have CQ:∀ k:Nat,k<=4->(16:Int) ^ k<=65536:=by
  intro k hk;have:k=0\/k=1\/k=2\/k=3\/k=4:=M0;rcases this with rfl|rfl|rfl|rfl|rfl <;>decide
 have HPW:=F CQ;clear CQ;go_enter func236,ntmps236;go_wp2_with fail
 go_loopw [3,17] (λnv iv wr=>∃ (k:Nat) (n:Int),k<=N/\iv=.int .i64 k/\nv=.int .i64 n/\Hid (qK 16 n (l.drop k)=D0)/\0<=n/\n<16 ^ k/\w=wr) (λ_ i _=>N-(intOf i).toNat)
 case atStart=>exact⟨0,0,aL _,Oc,Oc,HD.o.symm,M0,P8,rfl⟩
 case round =>
  obtain⟨k,n,hk,rfl,rfl,hd,hn0,hn1,rfl⟩:=hrel;have hp:=HPW.o k M0;by_cases hlt:k<N
  ·have mf:k<s.size:=by rw[iP];exact hlt
   have hkl:k<l.length:=by have:=eM.o;omega
   have X:=iV.o k mf hkl;have hst:=sa 16 n hkl;rw[hd.o]at hst;have hr:=jL (l[k]'hkl);have hda:=λW=>dm (G (l[k]'hkl)) 16 W hr M0;have hlo:=zX (G (l[k]'hkl));obtain⟨D,hD⟩:=V (fg (G (l[k]'hkl)) 16);rw[<-hD]at hst hda hlo;clear hD;generalize G (l[k]'hkl)=Y' at X hr hda;have rN:=F hda;clear hda hd;by_cases hD0:D<0
   ·rw[if_pos hD0]at hst
    have hr:=HR.o;rw[hst]at hr;have HST:=F hr;clear hst hr;have J6:=F hn1;clear hn1 hp
    go_wp2_with (first|(go_at_call 90;refine(rN.o _).m ?_;rintro e w2 ⟨rfl,hw2⟩;subst hw2))
    exact⟨rfl,by rw[HST.o];rfl,rfl⟩
   rw[if_neg hD0]at hst;have hn2:n*16+D<16 ^ (k+1):=by rw[lq];omega
   have hw1:IntKind.i64.wrap (n*16)=n*16:=IntWalk.i64_in _ M0;have hw2:IntKind.i64.wrap (n*16+D)=n*16+D:=IntWalk.i64_in _ M0;have HST:=F hst;clear hst;have J6:=F hn1;clear hn1 hp;have mh:=F hn2;clear hn2
   go_wp2_with (first|(go_at_call 90;refine(rN.o _).m ?_;rintro e w2 ⟨rfl,hw2⟩;subst hw2))
   go_roundw
   case rel=>exact⟨k+1,n*16+D,M0,Oc,by simp;try omega,HST.o.symm,M0,mh.o,by trivial⟩
   case measure=>simp[intOf];omega
  obtain rfl:k=N:=M0;have hdr:l.drop k=[]:=bE (by have:=eM.o;omega);have hd1:=hd.o;rw[hdr]at hd1;have hr:=HR.o;rw[show D0=some n from hd1.symm]at hr;have hwr:IntKind.u16.wrap n=n:=by rw[IntKind.wrap_u16];omega
  have HST:=F (show R=some n from hr);clear hd1 hr hd;clear hn1 hp;go_wp2_with fail;go_ret;exact⟨by rw[HST.o];rfl,rfl⟩

def z9:Nat->Int->O->Option Int
 |0,n,_=>some n
 |r+1,n,s=>if(Lib.cut s [46]).2.2≠decide (0<r)then none else match gd (Lib.cut s [46]).1 with|none=>none|some d=>z9 r (n*256+d) (Lib.cut s [46]).2.1
def FK:Nat->Int->List O->Option Int
 |0,n,_=>some n
 |_+1,_,[]=>none
 |r+1,n,p::ps=>if(!ps.isEmpty)≠decide (0<r)then none else match gd p with|none=>none|some d=>FK r (n*256+d) ps
theorem yr:∀ (r:Nat) (n:Int) (s:O),z9 r n s=FK r n (ep 46 s)
 |0,_,_=>rfl
 |r+1,n,s=>by
  by_cases h:(46:UInt8)∈s
  ·obtain⟨p,t,Y,I,h3⟩:=ou h
   obtain⟨q,qs,hq⟩:=jV 46 t;have e:ep 46 s=p::ep 46 t:=by rw[Y,uY,oL I];rfl
   unfold z9;rw[e,h3];show _=if(!(ep 46 t).isEmpty)≠decide (0<r)then none else match gd p with|none=>none|some d=>FK r (n*256+d) (ep 46 t)
   have e2:(!(ep 46 t).isEmpty)=true:=by rw[hq];rfl
   rw[e2];dsimp only
   split
   ·rfl
   cases gd p with
   |none=>rfl
   |some d=>exact yr r _ t
  have h3:=q7 h;have e:ep 46 s=[s]:=oL h;unfold z9;rw[e,h3];show _=if(!([]:List O).isEmpty)≠decide (0<r)then none else match gd s with|none=>none|some d=>FK r (n*256+d) []
  have e2:(!([]:List O).isEmpty)=false:=rfl;rw[e2];dsimp only;by_cases hr:0<r
  ·rw[if_pos (by simp[hr]),if_pos (by simp[hr])]
  obtain rfl:r=0:=M0;rw[if_neg Oc,if_neg Oc];rfl
theorem Zv(l:List O)(hne:l ≠ []):FK 4 0 l=(fnL l).map λv=>v.1*65536+v.2:=by
 have I:∀ r n p ps,FK (r+1) n (p::ps)=if(!ps.isEmpty)≠decide (0<r)then none else match gd p with|none=>none|some d=>FK r (n*256+d) ps:=λ_ _ _ _=>rfl
 match l,hne with
 | [],h=>exact absurd rfl h
 | [p],_=>rw[I];rfl
 | [p,q],_=>rw[I,if_neg Oc];cases gd p <;>rfl
 | [p,q,r],_ =>
  rw[I,if_neg Oc];cases gd p with
  |none=>rfl
  |some a =>
   dsimp only;rw[I,if_neg Oc];cases gd q <;>rfl
 | [p,q,r,t],_ =>
  have e:fnL [p,q,r,t]=match gd p with|none=>none|some a=>match gd q with|none=>none|some b=>match gd r with|none=>none|some c=>match gd t with|none=>none|some d=>some (256*a+b,256*c+d):=rfl
  rw[I,if_neg Oc,e];clear e;cases gd p with
  |none=>rfl
  |some a =>
   dsimp only;rw[I,if_neg Oc];cases gd q with
   |none=>rfl
   |some b =>
    dsimp only;rw[I,if_neg Oc];cases gd r with
    |none=>rfl
    |some c =>
     dsimp only;rw[I,if_neg Oc];cases gd t with
     |none=>rfl
     |some d =>
      show some _=some _
      congr 1
      dsimp only;omega
 |p::q::r::t::u::v,_ =>
  have e:fnL (p::q::r::t::u::v)=none:=rfl;rw[I,if_neg Oc,e];cases gd p with
  |none=>rfl
  |some a =>
   dsimp only;rw[I,if_neg Oc];cases gd q with
   |none=>rfl
   |some b =>
    dsimp only;rw[I,if_neg Oc];cases gd r with
    |none=>rfl
    |some c =>
     dsimp only;rw[I,if_pos Oc];rfl
theorem Zw(s:O):z9 4 0 s=(fnF s).map λv=>v.1*65536+v.2:=by
 rw[yr];exact Zv _ (by obtain⟨p,ps,h⟩:=jV 46 s;rw[h];simp)
def a8U:Option (Int×Int)->Ending|some v=>.returned (.tuple #[.int .u16 v.1,.int .u16 v.2])|none=>H9
theorem LK(v:Nat)(hv:v<4294967296):bits BinOp.and IntKind.i64 (v:Int) 65535=((v%65536:Nat):Int):=by
 have h:=bits_mask .i64 63 P8 (λn h0 Y=>IntWalk.i64_in _ M0) 16 P8 (v:Int) M0 M0;have e:((2:Int) ^ 16-1)=65535:=P8;have e2:((2:Int) ^ 16)=65536:=P8;rw[e,e2]at h;rw[h];omega
theorem BX(s m:O):(Lib.cut s m).2.1.length<=s.length/\(Lib.cut s m).1.length<=s.length:=by
 unfold Lib.cut
 split
 ·simp[List.length_drop,List.length_take];omega
 simp
theorem Cz(l:O)(w:H)(hl:l.length<=1024000000)(hE:Env w):Calls prog 235 #[.string (E l)] w λe w'=>e=a8U (fnF l)/\r7 w w':=by
 have hF:=Zw l;have hrg:∀ v,fnF l=some v->(0<=v.1/\v.1<65536)/\(0<=v.2/\v.2<65536):=λv h=>yt h;obtain⟨R,hR⟩:=V (fnF l);rw[<-hR]at hF hrg ⊢;clear hR;obtain⟨s,hs⟩:=V (E l);rw[<-hs];have HS:=F hs;clear hs;have HF:=F hF;clear hF;have EE:=F hrg;clear hrg;have SW:=F hE;clear hE;have HL:=F hl;clear hl
 have CQ:∀ k:Nat,k<=3->(256:Int) ^ k<=16777216:=by
  intro k hk;have:k=0\/k=1\/k=2\/k=3:=M0;rcases this with rfl|rfl|rfl|rfl <;>decide
 have HPW:=F CQ;clear CQ;go_enter func235,ntmps235;go_wp2_with fail
 go_loopw [0,4,9] (λsv nv iv wr=>∃ (k:Nat) (n:Int) (t:O),k<=4/\iv=.int .i64 k/\nv=.int .i64 n/\sv=.string (E t)/\Hid (z9 (4-k) n t=R.map λv=>v.1*65536+v.2)/\Hid (t.length<=l.length)/\0<=n/\Hid (n<256 ^ k)/\r7 w wr) (λ_ _ i _=>4-(intOf i).toNat)
 case atStart=>exact⟨0,0,l,M0,Oc,Oc,by rw[HS.o],HF.o,ag _,M0,(by decide:(0:Int)<256 ^ 0),Below.refl _ _⟩
 case round =>
  obtain⟨k,n,t,hk,rfl,rfl,rfl,hf,htl,hn0,hn1,U⟩:=hrel;have HB:=F U;clear U;by_cases hlt:k<4
  ·have hcr:=BX t [46]
   have me:=λW (h:r7 w W)=>gK t [46] W (by have:=htl.o;have:=HL.o;omega) (SW.o.below h);rw[show E [46]=⟨#[46]⟩from rfl]at me;have hf1:=hf.o;rw[show 4-k=(3-k)+1 by omega]at hf1;unfold z9 at hf1;obtain⟨c1,c2,c3,hc⟩:∃ c1 c2 c3,Lib.cut t [46]=(c1,c2,c3):=⟨_,_,_,rfl⟩;rw[hc]at me hf1 hcr;dsimp only at me hf1 hcr;have hl1:c1.length<=1024000000:=by have:=htl.o;have:=HL.o;omega
   have hl2:c2.length<=l.length:=by have:=htl.o;omega
   have hdc:=λW=>Cb c1 W hl1;have lB:=F<|me _ HB.o;clear me hc hf;have HL2:=F hl2;clear hl2 hl1 hcr htl;obtain⟨u,hu⟩:=V (E t);rw[<-hu]at lB;rw[<-hu];clear hu;have hk3:k<3\/k=3:=M0;have J6:=F hn1.o;clear hn1;have hp:=HPW.o k M0;have CO:n<16777216:=by have:=J6.o;omega
   have hn2:∀ d:Int,d<256->n*256+d<256 ^ (k+1):=λd hd=>by rw[lq];have:=J6.o;omega
   clear hp;have Z7:IntKind.i64.wrap (n*256)=n*256:=IntWalk.i64_in _ M0;have mh:=F hn2;clear hn2;cases c3 with
   |true =>
    rcases hk3 with hk3|rfl
    ·rw[if_neg (by simp;omega)]at hf1
     have ZR:(k:Int)<3:=M0;cases hdd:gd c1 with
     |none =>
      rw[hdd]at hf1 hdc;have n7:R=none:=by cases R with|none=>rfl|some v=>cases hf1
      have iT:=F n7;clear n7 hf1
      change ∀W,Calls _ _ _ W λe w'=>e=H9/\w'=W at hdc
      have Tt:=F hdc;clear hdc hdd
      go_wp2_with (first
     |(go_at_call 63;refine(lB.o).m ?_;rintro e w2 ⟨rfl,hb2⟩;have HB2:=F<|HB.o.trans (hb2.m HB.o.size);clear hb2)
     |(go_at_call 246;refine(Tt.o _).m ?_;rintro e w3 ⟨rfl,hw3⟩;subst hw3))
      exact⟨rfl,by rw[iT.o];rfl,HB2.o⟩
     |some d =>
      rw[hdd]at hf1 hdc;have hdr:=kg hdd;have Hs:=F (show z9 (4-(k+1)) (n*256+d) c2=R.map λv=>v.1*65536+v.2 by rw[show 4-(k+1)=3-k by omega];exact hf1);clear hf1
      change ∀W,Calls _ _ _ W λe w'=>e=.returned (.int .i64 d)/\w'=W at hdc
      have Tt:=F hdc;clear hdc hdd;have a98:IntKind.i64.wrap (n*256+d)=n*256+d:=IntWalk.i64_in _ M0
      go_wp2_with (first
     |(go_at_call 63;refine(lB.o).m ?_;rintro e w2 ⟨rfl,hb2⟩;have HB2:=F<|HB.o.trans (hb2.m HB.o.size);clear hb2)
     |(go_at_call 246;refine(Tt.o _).m ?_;rintro e w3 ⟨rfl,hw3⟩;subst hw3))
      go_roundw
      case rel=>exact⟨k+1,n*256+d,c2,M0,Oc,r5,r5,Hs.o,HL2.o,M0,mh.o d hdr.2,HB2.o⟩
      case measure=>simp[intOf];omega
    rw[if_pos Oc]at hf1;have n7:R=none:=by cases R with|none=>rfl|some v=>cases hf1
    have iT:=F n7;clear n7 hf1 hdc
    go_wp2_with (first
    |(go_at_call 63;refine(lB.o).m ?_;rintro e w2 ⟨rfl,hb2⟩;have HB2:=F<|HB.o.trans (hb2.m HB.o.size);clear hb2))
    exact⟨rfl,by rw[iT.o];rfl,HB2.o⟩
   |false =>
    rcases hk3 with hk3|rfl
    ·rw[if_pos (by simp;omega)]at hf1
     have ZR:(k:Int)<3:=M0;have n7:R=none:=by cases R with|none=>rfl|some v=>cases hf1
     have iT:=F n7;clear n7 hf1 hdc
     go_wp2_with (first
     |(go_at_call 63;refine(lB.o).m ?_;rintro e w2 ⟨rfl,hb2⟩;have HB2:=F<|HB.o.trans (hb2.m HB.o.size);clear hb2))
     exact⟨rfl,by rw[iT.o];rfl,HB2.o⟩
    rw[if_neg Oc]at hf1;cases hdd:gd c1 with
    |none =>
     rw[hdd]at hf1 hdc;have n7:R=none:=by cases R with|none=>rfl|some v=>cases hf1
     have iT:=F n7;clear n7 hf1
     change ∀W,Calls _ _ _ W λe w'=>e=H9/\w'=W at hdc
     have Tt:=F hdc;clear hdc hdd
     go_wp2_with (first
    |(go_at_call 63;refine(lB.o).m ?_;rintro e w2 ⟨rfl,hb2⟩;have HB2:=F<|HB.o.trans (hb2.m HB.o.size);clear hb2)
    |(go_at_call 246;refine(Tt.o _).m ?_;rintro e w3 ⟨rfl,hw3⟩;subst hw3))
     exact⟨rfl,by rw[iT.o];rfl,HB2.o⟩
    |some d =>
     rw[hdd]at hf1 hdc;have hdr:=kg hdd;have Hs:=F (show z9 (4-(3+1)) (n*256+d) c2=R.map λv=>v.1*65536+v.2 from hf1);clear hf1
     change ∀W,Calls _ _ _ W λe w'=>e=.returned (.int .i64 d)/\w'=W at hdc
     have Tt:=F hdc;clear hdc hdd;have a98:IntKind.i64.wrap (n*256+d)=n*256+d:=IntWalk.i64_in _ M0
     go_wp2_with (first
    |(go_at_call 63;refine(lB.o).m ?_;rintro e w2 ⟨rfl,hb2⟩;have HB2:=F<|HB.o.trans (hb2.m HB.o.size);clear hb2)
    |(go_at_call 246;refine(Tt.o _).m ?_;rintro e w3 ⟨rfl,hw3⟩;subst hw3))
     go_roundw
     case rel=>exact⟨3+1,n*256+d,c2,M0,r5,r5,r5,Hs.o,HL2.o,M0,mh.o d hdr.2,HB2.o⟩
     case measure=>simp[intOf]
  obtain rfl:k=4:=M0;have hf1:=hf.o;have hf2:some n=R.map λv=>v.1*65536+v.2:=hf1;have hn4:n<4294967296:=hn1.o;cases R with
  |none=>cases hf2
  |some v =>
   injection hf2 with hf2
   replace hf2:n=v.1*65536+v.2:=hf2;have hr:=EE.o v rfl;obtain⟨N,rfl⟩:∃ N:Nat,n=N:=⟨n.toNat,M0⟩;have hmk:=LK N M0;obtain⟨a,ha⟩:=V (v.1);obtain⟨b,U⟩:=V (v.2);rw[<-ha,<-U]at hr hf2;have e1:((N%65536:Nat):Int)=b:=M0;rw[e1]at hmk;have HV:=F (show v=(a,b) by rw[ha,U]);clear ha U hf hf1 hn1 e1;have Qb:IntKind.u16.wrap a=a:=by rw[IntKind.wrap_u16];omega
   have hwb:IntKind.u16.wrap b=b:=by rw[IntKind.wrap_u16];omega
   have hdv:(N:Int)/65536=a:=M0;have Hs:=F hf2;clear hf2;go_wp2_with fail
   go_ret2
   exact⟨by rw[HV.o];rfl,HB.o⟩

abbrev dz(l:List Int):List Z:=l.map (Value.int .u16)
theorem D5:(prog.info? 29).map (λi=>(i.zero,i.size,i.bytes))=some (some (.int .u16 0),1,2):=Rz
theorem X2{P:Program}{ops:Array Oper}{rest:List Oper}{o:Oper}{a:Act}{Q:Exit->Act->H->Prop}(hgd:o.guard=none)(s x:Operand)(t:TypeId)
  (ho:o.op=.call {callee:=.builtin .append,args:=#[s,x],argTypes:=#[t,t]})
  (base:Nat) (e:TypeId) (i:TypeInfo) (z:Z) (bytes:Nat) (ht:P.underlying t=some (.slice e)) (hi:P.info? e=some i) (hz:i.zero=some z)
  (hsize:i.size=1) (hby:i.bytes=bytes) (hzs:z.cells.size=1) (w:H)
  (v:Z) (n:Nat) (xs:List Z) (hs:a.eval s=v) (hown:w.ownsRow base e 1 v n xs) (u1 u2:Z) (X:a.eval x=.slice (some ⟨w.heap.size,0,none⟩) 2 2) (Y:u1.oneCell'=true) (I:u2.oneCell'=true)
  (h63:n+2<=1099511627776) (hbytes:bytes<=64) (hbase:base<=w.heap.size)
  (h:∀ v' w',w'.ownsRow base e 1 v' (n+2) (xs++[u1,u2])->w.heap.size<w'.heap.size->Below base w w'->wpList P ops Q rest (a.put o.dst v') w') :
  wpList P ops Q (o::rest) a (w.alloc (.cells #[u1,u2] e)):=by
 refine wpList_append_own _ hgd s x t ho base e i z 1 bytes ht hi hz hsize hby hzs P8 v n xs hs (hown.alloc _) ⟨w.heap.size,0,none⟩ 2 2 [u1,u2] X rfl ?_ ?_ ?_ ?_ ?_ ?_
 ·intro j u' hj
  match j,hj with
  |0,hj=>simp at hj;subst hj;simp[Addr.add]
  |1,hj=>simp at hj;subst hj;simp[Addr.add]
 ·intro u' hu
  simp at hu;rcases hu with rfl|rfl
  ·exact Y
  exact I
 ·unfold maxLen;omega
 ·have:(n+2)*bytes<=(n+2)*64:=pj _ hbytes
  omega
 ·simp;omega
 intro v' w' ho' hg _;refine h v' w' ho' ?_ (((Below.refl _ _).alloc hbase _).grown hg (by simp;omega) (λk hk=>(hown.lt k hk).1));have:=hg.size;simp at this;omega
def kp(w:H)(o:Option (List Int)):Ending->H->Prop:=λe w'=>(match o with|some l=>∃ v,e=.returned v/\w'.ownsRow w.heap.size 29 1 v l.length (dz l)|none=>e=H9)/\r7 w w'
theorem kp.none{w w':H}{o:Option (List Int)}(h:o=none)(U:r7 w w'):kp w o H9 w':=by subst h;exact⟨rfl,U⟩
theorem kp.some{w w':H}{o:Option (List Int)}{l:List Int}{v:Z}(h:o=some l)(hv:w'.ownsRow w.heap.size 29 1 v l.length (dz l))(U:r7 w w'):kp w o (.returned v) w':=by subst h;exact⟨⟨v,rfl,hv⟩,U⟩
theorem b0d(l:O)(W:H):bP prog 75 #[.string (E l),.int .u8 46] W (.int .i64 (Lib.indexByte l 46)):=by
 have h:=Any.strings_IndexByte laysIB (E l) 46 W;rw[show(E l).data.toList=l from cW l]at h;exact h
theorem Qi(l:O):0<=Lib.indexByte l 46 ↔ 46∈l:=by
 rw[oe];unfold iO;rw[m8];constructor
 ·rintro⟨x,X,h⟩
  have:x=46:=eX (by simpa using h);exact this▸X
 intro h;exact⟨46,h,Oc⟩
theorem Mh(nums:Bool){t p r:O}(h:t=p++58::r)(hp:58∉p):rowP nums (ep 58 t)=match jE p with|none=>none|some n=>(rowP nums (ep 58 r)).map (n::·):=by
 obtain⟨q,qs,hq⟩:=jV 58 r;rw[h,uY,oL hp,hq];rfl
theorem Mg(nums:Bool){t:O}(h:58∉t):rowP nums (ep 58 t)=endP nums t:=by
 rw[oL h];rfl
theorem ex{w:H}{base e n:Nat}{v:Z}{xs:List Z}(h:w.ownsRow base e 1 v n xs):∃ a c,v=.slice a n c:=by
 rcases h.2 with⟨rfl,rfl⟩|⟨g,cap,cur,rfl,_⟩
 ·exact⟨_,_,rfl⟩
 exact⟨_,_,rfl⟩
theorem RM{T R:Option (List Int)}(hR:R=match T with|none=>none|some l=>if 8<l.length then none else some l){a:List Int}{o:Option (List Int)}(hT:o.map (a++·)=T)(h:8<a.length):R=none:=by
 subst hT;cases o with
 |none=>exact hR
 |some l=>rw[hR];simp only[Xg];rw[if_pos (by rw[ae];omega)]
theorem AP(l:O)(nums:Bool)(w:H)(hl:l.length<=1024000000)(hE:Env w):Calls prog 226 #[.string (E l),.bool nums] w (kp w (rm nums l)):=by
 obtain⟨i1,hi1,hz1,hz2,hz3⟩:=info_parts D5;obtain⟨R,hR⟩:=V (rm nums l);rw[<-hR];unfold rm at hR;by_cases hnil:l=[]
 ·rw[if_pos hnil]at hR
  obtain⟨s,hs⟩:=V (E l);have he2:s.toList=[]:=by rw[hs,aB,hnil]
  have he:s.toList.isEmpty=true:=by rw[he2];rfl
  rw[<-hs];clear hs hnil hl hE;have HR:=F hR;clear hR;go_enter func226,ntmps226;go_wp2_with fail;go_ret;exact kp.some HR.o ⟨rfl,.inl ⟨rfl,rfl⟩⟩ (Below.refl _ _)
 rw[if_neg hnil]at hR;obtain⟨T,hT⟩:=V (rowP nums (ep 58 l));rw[<-hT]at hR;obtain⟨s,hs⟩:=V (E l);have he2:¬ s.toList=[]:=by rw[hs,aB];exact hnil
 have he:s.toList.isEmpty=false:=by simpa using he2
 rw[<-hs];have HS:=F hs;clear hs;have HR:=F hR;clear hR;have HT:=F hT;clear hT;have HL:=F hl;clear hl;have SW:=F hE;clear hE;clear hnil;go_enter func226,ntmps226;go_wp2_with fail
 go_loopw [0,5,6] (λsv lv mv wr=>∃ (m:Bool) (t:O) (a:List Int),mv=.bool m/\sv=.string (E t)/\Hid (t.length<=l.length)/\wr.ownsRow w.heap.size 29 1 lv a.length (dz a)/\a.length<=8/\Hid ((if m then(rowP nums (ep 58 t)).map (a++·)else some a)=T)/\w.heap.size<=wr.heap.size/\r7 w wr) (λsv _ mv _=>match mv with | .bool true=>Gm sv+1|_=>0)
 case atStart=>exact⟨true,l,[],Oc,by rw[HS.o],ag _,⟨rfl,.inl ⟨rfl,rfl⟩⟩,Oc,by rw[if_pos rfl,HT.o];cases rowP nums (ep 58 l) <;>rfl,ag _,Below.refl _ _⟩
 case round =>
  obtain⟨m,t,a,rfl,rfl,htl,hown,Tc,hinv,hwz,U⟩:=hrel;have HO:=F hown;clear hown;have HB:=F U;clear U;cases m with
  |false =>
   have hT:some a=T:=hinv.o;have hRa:R=some a:=by rw[HR.o,<-hT];dsimp only;rw[if_neg M0]
   have dI:=F hRa;clear hRa hT hinv;go_wp2_with fail;go_ret;exact kp.some dI.o HO.o HB.o
  |true =>
   have cZ:(rowP nums (ep 58 t)).map (a++·)=T:=hinv.o;have htm:t.length<=1024000000:=by have:=htl.o;have:=HL.o;omega
   have me:=λW (h:r7 w W)=>gK t [58] W htm (SW.o.below h);rw[show E [58]=⟨#[58]⟩from rfl]at me;obtain⟨u,hu⟩:=V (E t);have ng:u.size=t.length:=by rw[hu,aF]
   rw[<-hu]at me;rw[<-hu];have HUS:=F ng;clear ng hinv;have HU:=F hu;clear hu;by_cases FQ:(58:UInt8)∈t
   ·obtain⟨p,r,hpr,hp,hlc⟩:=ou FQ
    rw[hlc]at me;have lB:=F<|me _ HB.o;clear me hlc;rw[Mh nums hpr hp]at cZ;have hlr:p.length+r.length+1=t.length:=by rw[hpr];simp;omega
    have hpi:=λW=>yR p W M0;have HL2:=F (show r.length<=l.length by have:=htl.o;omega);have HLR:=F hlr;clear hlr htl htm FQ hpr hp;cases hpp:jE p with
    |none =>
     rw[hpp]at cZ hpi;clear hpp
     change ∀W,Calls _ _ _ W λe w'=>e=H9/\w'=W at hpi
     have Hu:=F hpi;clear hpi;have n7:R=none:=by rw[HR.o,<-cZ];rfl
     have iT:=F n7;clear n7 cZ
     go_wp2_with (first
     |(go_at_call 63;refine(lB.o).m ?_;rintro e w2 ⟨rfl,hb2⟩;have eJ:=F<|own_below HO.o hb2;have HB2:=F<|HB.o.trans (hb2.m HB.o.size);have pp:=am hwz hb2.size;clear hb2)
     |(go_at_call 236;refine(Hu.o _).m ?_;rintro e w4 ⟨rfl,hw4⟩;subst hw4))
     exact⟨rfl,kp.none iT.o HB2.o⟩
    |some n =>
     rw[hpp]at cZ hpi;clear hpp
     replace cZ:(rowP nums (ep 58 r)).map ((a++[n])++·)=T:=by
      rw[<-cZ];cases rowP nums (ep 58 r) <;>simp
     change ∀W,Calls _ _ _ W λe w'=>e=.returned (.int .u16 n)/\w'=W at hpi
     have Hu:=F hpi;clear hpi;have hao:dz a++[.int .u16 n]=dz (a++[n]):=Oc;have Yk:=F hao;clear hao;obtain⟨al,hal⟩:=V (a.length);have ho:=HO.o;rw[<-hal]at ho Tc;have HO:=F ho;clear ho;by_cases h9:al+1<=8
     ·have HI2:=F (show(if true=true then(rowP nums (ep 58 r)).map ((a++[n])++·)else some (a++[n]))=T from cZ);clear cZ
      have mW:=F hal;clear hal
      go_wp2_with (first
      |(go_at_call 63;refine(lB.o).m ?_;rintro e w2 ⟨rfl,hb2⟩;have eJ:=F<|own_below HO.o hb2;have HB2:=F<|HB.o.trans (hb2.m HB.o.size);have pp:=am hwz hb2.size;clear hb2)
      |(go_at_call 236;refine(Hu.o _).m ?_;rintro e w4 ⟨rfl,hw4⟩;subst hw4)
      |(at_builtin;(refine et rfl (.tmp 39) (.tmp 42) _ rfl w.heap.size 29 i1 (.int .u16 0) 2 underlying223 hi1 hz1 hz2 hz3 P8 _ _ _ (dz a) rfl eJ.o (.int .u16 n) rfl rfl M0 P8 M0 ?_);intro v6 w6 hown6 F4 hb6;obtain⟨Y9,Zj,hv6⟩:=ex hown6;subst hv6;have Bu:=F hown6;clear hown6;have j8:=F<|HB2.o.trans hb6;clear hb6))
      go_roundw
      case rel =>
       refine⟨true,r,a++[n],r5,r5,HL2.o,?_,by rw[ae,<-mW.o];exact h9,HI2.o,M0,j8.o⟩;rw[ae,<-mW.o,<-Yk.o];exact Bu.o
      case measure=>simp[Gm,aF];have:=HLR.o;have:=HUS.o;omega
     have n7:R=none:=RM HR.o (o:=rowP nums (ep 58 r)) cZ (by rw[ae,<-hal];simp;omega);have iT:=F n7;clear n7 cZ hal
     go_wp2_with (first
     |(go_at_call 63;refine(lB.o).m ?_;rintro e w2 ⟨rfl,hb2⟩;have eJ:=F<|own_below HO.o hb2;have HB2:=F<|HB.o.trans (hb2.m HB.o.size);have pp:=am hwz hb2.size;clear hb2)
     |(go_at_call 236;refine(Hu.o _).m ?_;rintro e w4 ⟨rfl,hw4⟩;subst hw4)
     |(at_builtin;(refine et rfl (.tmp 39) (.tmp 42) _ rfl w.heap.size 29 i1 (.int .u16 0) 2 underlying223 hi1 hz1 hz2 hz3 P8 _ _ _ (dz a) rfl eJ.o (.int .u16 n) rfl rfl M0 P8 M0 ?_);intro v6 w6 hown6 F4 hb6;obtain⟨Y9,Zj,hv6⟩:=ex hown6;subst hv6;have Bu:=F hown6;clear hown6;have j8:=F<|HB2.o.trans hb6;clear hb6))
     exact⟨rfl,kp.none iT.o j8.o⟩
   have hlc:=q7 FQ;rw[hlc]at me;have lB:=F<|me _ HB.o;clear me hlc;rw[Mg nums FQ]at cZ;clear FQ;unfold endP at cZ;have hpi:=λW=>yR t W htm;have hib:=λW=>b0d t W;have him:=Qi t;have hfn:=λW (h:r7 w W)=>Cz t W htm (SW.o.below h);have HL2:=F (show([]:O).length<=l.length from aL _);obtain⟨I',hI⟩:=V (Lib.indexByte t 46);rw[<-hI]at hib him;have EB:=F hib;clear hib hI;cases nums with
   |false =>
    rw[if_neg Oc]at cZ;clear him hfn EB;cases hpp:jE t with
    |none =>
     rw[hpp]at cZ hpi;clear hpp
     change ∀W,Calls _ _ _ W λe w'=>e=H9/\w'=W at hpi
     have Hu:=F hpi;clear hpi;have n7:R=none:=by rw[HR.o,<-cZ];rfl
     have iT:=F n7;clear n7 cZ
     go_wp2_with (first
          |(go_at_call 63;refine(lB.o).m ?_;rintro e w2 ⟨rfl,hb2⟩;have eJ:=F<|own_below HO.o hb2;have HB2:=F<|HB.o.trans (hb2.m HB.o.size);have pp:=am hwz hb2.size;clear hb2)
          |(go_at_call 236;refine(Hu.o _).m ?_;rintro e w4 ⟨rfl,hw4⟩;subst hw4))
     exact⟨rfl,kp.none iT.o HB2.o⟩
    |some n =>
     rw[hpp]at cZ hpi;clear hpp
     change ∀W,Calls _ _ _ W λe w'=>e=.returned (.int .u16 n)/\w'=W at hpi
     have Hu:=F hpi;clear hpi;have hao:dz a++[.int .u16 n]=dz (a++[n]):=Oc;have Yk:=F hao;clear hao;obtain⟨al,hal⟩:=V (a.length);have ho:=HO.o;rw[<-hal]at ho Tc;have HO:=F ho;clear ho;replace cZ:some (a++[n])=T:=cZ;by_cases h9:al+1<=8
     ·have HI2:=F (show(if false=true then(rowP false (ep 58 [])).map ((a++[n])++·)else some (a++[n]))=T from cZ);clear cZ
      have mW:=F hal;clear hal
      go_wp2_with (first
          |(go_at_call 63;refine(lB.o).m ?_;rintro e w2 ⟨rfl,hb2⟩;have eJ:=F<|own_below HO.o hb2;have HB2:=F<|HB.o.trans (hb2.m HB.o.size);have pp:=am hwz hb2.size;clear hb2)
          |(go_at_call 236;refine(Hu.o _).m ?_;rintro e w4 ⟨rfl,hw4⟩;subst hw4)
          |(at_builtin;(refine et rfl (.tmp 39) (.tmp 42) _ rfl w.heap.size 29 i1 (.int .u16 0) 2 underlying223 hi1 hz1 hz2 hz3 P8 _ _ _ (dz a) rfl eJ.o (.int .u16 n) rfl rfl M0 P8 M0 ?_);intro v6 w6 hown6 F4 hb6;obtain⟨Y9,Zj,hv6⟩:=ex hown6;subst hv6;have Bu:=F hown6;clear hown6;have j8:=F<|HB2.o.trans hb6;clear hb6))
      go_roundw
      case rel =>
       refine⟨false,[],a++[n],r5,r5,HL2.o,?_,by rw[ae,<-mW.o];exact h9,HI2.o,M0,j8.o⟩;rw[ae,<-mW.o,<-Yk.o];exact Bu.o
      case measure=>simp
     have n7:R=none:=by rw[HR.o,<-cZ];dsimp only;rw[if_pos (by rw[ae,<-hal];simp;omega)]
     have iT:=F n7;clear n7 cZ hal
     go_wp2_with (first
         |(go_at_call 63;refine(lB.o).m ?_;rintro e w2 ⟨rfl,hb2⟩;have eJ:=F<|own_below HO.o hb2;have HB2:=F<|HB.o.trans (hb2.m HB.o.size);have pp:=am hwz hb2.size;clear hb2)
         |(go_at_call 236;refine(Hu.o _).m ?_;rintro e w4 ⟨rfl,hw4⟩;subst hw4)
         |(at_builtin;(refine et rfl (.tmp 39) (.tmp 42) _ rfl w.heap.size 29 i1 (.int .u16 0) 2 underlying223 hi1 hz1 hz2 hz3 P8 _ _ _ (dz a) rfl eJ.o (.int .u16 n) rfl rfl M0 P8 M0 ?_);intro v6 w6 hown6 F4 hb6;obtain⟨Y9,Zj,hv6⟩:=ex hown6;subst hv6;have Bu:=F hown6;clear hown6;have j8:=F<|HB2.o.trans hb6;clear hb6))
     exact⟨rfl,kp.none iT.o j8.o⟩
   |true =>
    by_cases h46:(46:UInt8)∈t
    ·rw[if_pos ⟨rfl,h46⟩]at cZ
     have hI0:0<=I':=him.mpr h46;clear him h46 hpi;cases FU:fnF t with
     |none =>
      rw[FU]at cZ hfn;clear FU
      change ∀W,r7 w W->Calls _ _ _ W λe w'=>e=H9/\r7 W w' at hfn
      have HFN:=F hfn;clear hfn;have n7:R=none:=by rw[HR.o,<-cZ];rfl
      have iT:=F n7;clear n7 cZ
      go_wp2_with (first
           |(go_at_call 63;refine(lB.o).m ?_;rintro e w2 ⟨rfl,hb2⟩;have eJ:=F<|own_below HO.o hb2;have HB2:=F<|HB.o.trans (hb2.m HB.o.size);have pp:=am hwz hb2.size;clear hb2)
           |(go_at_call 75;refine(EB.o _).m ?_;rintro e w3 ⟨rfl,hw3⟩;subst hw3)
           |(go_at_call 235;refine(HFN.o _ HB2.o).m ?_;rintro e w5 ⟨rfl,hb5⟩;have xn:=F<|own_below eJ.o hb5;have gD:=F<|HB2.o.trans (hb5.m HB2.o.size);have a4R:=am pp hb5.size;clear hb5))
      exact⟨rfl,kp.none iT.o gD.o⟩
     |some v =>
      rw[FU]at cZ hfn;clear FU;obtain⟨v1,v2⟩:=v
      change ∀W,r7 w W->Calls _ _ _ W λe w'=>e=.returned (.tuple #[.int .u16 v1,.int .u16 v2])/\r7 W w' at hfn
      have HFN:=F hfn;clear hfn;have hao:dz a++[.int .u16 v1,.int .u16 v2]=dz (a++[v1,v2]):=Oc;have Yk:=F hao;clear hao;obtain⟨al,hal⟩:=V (a.length);have ho:=HO.o;rw[<-hal]at ho Tc;have HO:=F ho;clear ho;replace cZ:some (a++[v1,v2])=T:=cZ;by_cases h9:al+2<=8
      ·have HI2:=F (show(if false=true then(rowP true (ep 58 [])).map ((a++[v1,v2])++·)else some (a++[v1,v2]))=T from cZ);clear cZ
       have mW:=F hal;clear hal
       go_wp2_with (first
           |(go_at_call 63;refine(lB.o).m ?_;rintro e w2 ⟨rfl,hb2⟩;have eJ:=F<|own_below HO.o hb2;have HB2:=F<|HB.o.trans (hb2.m HB.o.size);have pp:=am hwz hb2.size;clear hb2)
           |(go_at_call 75;refine(EB.o _).m ?_;rintro e w3 ⟨rfl,hw3⟩;subst hw3)
           |(go_at_call 235;refine(HFN.o _ HB2.o).m ?_;rintro e w5 ⟨rfl,hb5⟩;have xn:=F<|own_below eJ.o hb5;have gD:=F<|HB2.o.trans (hb5.m HB2.o.size);have a4R:=am pp hb5.size;clear hb5)
           |(at_builtin;(refine X2 rfl (.tmp 34) (.tmp 37) _ rfl w.heap.size 29 i1 (.int .u16 0) 2 underlying223 hi1 hz1 hz2 hz3 P8 _ _ _ (dz a) rfl xn.o (.int .u16 v1) (.int .u16 v2) rfl rfl rfl M0 P8 M0 ?_);intro v6 w6 hown6 F4 hb6;obtain⟨Y9,Zj,hv6⟩:=ex hown6;subst hv6;have Bu:=F hown6;clear hown6;have j8:=F<|gD.o.trans hb6;clear hb6))
       go_roundw
       case rel =>
        refine⟨false,[],a++[v1,v2],r5,r5,HL2.o,?_,by rw[ae,<-mW.o];exact h9,HI2.o,M0,j8.o⟩;rw[ae,<-mW.o,<-Yk.o];exact Bu.o
       case measure=>simp
      have n7:R=none:=by rw[HR.o,<-cZ];dsimp only;rw[if_pos (by rw[ae,<-hal];simp;omega)]
      have iT:=F n7;clear n7 cZ hal
      go_wp2_with (first
          |(go_at_call 63;refine(lB.o).m ?_;rintro e w2 ⟨rfl,hb2⟩;have eJ:=F<|own_below HO.o hb2;have HB2:=F<|HB.o.trans (hb2.m HB.o.size);have pp:=am hwz hb2.size;clear hb2)
          |(go_at_call 75;refine(EB.o _).m ?_;rintro e w3 ⟨rfl,hw3⟩;subst hw3)
          |(go_at_call 235;refine(HFN.o _ HB2.o).m ?_;rintro e w5 ⟨rfl,hb5⟩;have xn:=F<|own_below eJ.o hb5;have gD:=F<|HB2.o.trans (hb5.m HB2.o.size);have a4R:=am pp hb5.size;clear hb5)
          |(at_builtin;(refine X2 rfl (.tmp 34) (.tmp 37) _ rfl w.heap.size 29 i1 (.int .u16 0) 2 underlying223 hi1 hz1 hz2 hz3 P8 _ _ _ (dz a) rfl xn.o (.int .u16 v1) (.int .u16 v2) rfl rfl rfl M0 P8 M0 ?_);intro v6 w6 hown6 F4 hb6;obtain⟨Y9,Zj,hv6⟩:=ex hown6;subst hv6;have Bu:=F hown6;clear hown6;have j8:=F<|gD.o.trans hb6;clear hb6))
      exact⟨rfl,kp.none iT.o j8.o⟩
    rw[if_neg (λa=>h46 a.2)]at cZ;have hI0:I'<0:=Int.not_le.mp (λh=>h46 (him.mp h));clear him hfn;cases hpp:jE t with
    |none =>
     rw[hpp]at cZ hpi;clear hpp
     change ∀W,Calls _ _ _ W λe w'=>e=H9/\w'=W at hpi
     have Hu:=F hpi;clear hpi;have n7:R=none:=by rw[HR.o,<-cZ];rfl
     have iT:=F n7;clear n7 cZ
     go_wp2_with (first
          |(go_at_call 63;refine(lB.o).m ?_;rintro e w2 ⟨rfl,hb2⟩;have eJ:=F<|own_below HO.o hb2;have HB2:=F<|HB.o.trans (hb2.m HB.o.size);have pp:=am hwz hb2.size;clear hb2)
          |(go_at_call 75;refine(EB.o _).m ?_;rintro e w3 ⟨rfl,hw3⟩;subst hw3)
          |(go_at_call 236;refine(Hu.o _).m ?_;rintro e w4 ⟨rfl,hw4⟩;subst hw4))
     exact⟨rfl,kp.none iT.o HB2.o⟩
    |some n =>
     rw[hpp]at cZ hpi;clear hpp
     change ∀W,Calls _ _ _ W λe w'=>e=.returned (.int .u16 n)/\w'=W at hpi
     have Hu:=F hpi;clear hpi;have hao:dz a++[.int .u16 n]=dz (a++[n]):=Oc;have Yk:=F hao;clear hao;obtain⟨al,hal⟩:=V (a.length);have ho:=HO.o;rw[<-hal]at ho Tc;have HO:=F ho;clear ho;replace cZ:some (a++[n])=T:=cZ;by_cases h9:al+1<=8
     ·have HI2:=F (show(if false=true then(rowP true (ep 58 [])).map ((a++[n])++·)else some (a++[n]))=T from cZ);clear cZ
      have mW:=F hal;clear hal
      go_wp2_with (first
          |(go_at_call 63;refine(lB.o).m ?_;rintro e w2 ⟨rfl,hb2⟩;have eJ:=F<|own_below HO.o hb2;have HB2:=F<|HB.o.trans (hb2.m HB.o.size);have pp:=am hwz hb2.size;clear hb2)
          |(go_at_call 75;refine(EB.o _).m ?_;rintro e w3 ⟨rfl,hw3⟩;subst hw3)
          |(go_at_call 236;refine(Hu.o _).m ?_;rintro e w4 ⟨rfl,hw4⟩;subst hw4)
          |(at_builtin;(refine et rfl (.tmp 39) (.tmp 42) _ rfl w.heap.size 29 i1 (.int .u16 0) 2 underlying223 hi1 hz1 hz2 hz3 P8 _ _ _ (dz a) rfl eJ.o (.int .u16 n) rfl rfl M0 P8 M0 ?_);intro v6 w6 hown6 F4 hb6;obtain⟨Y9,Zj,hv6⟩:=ex hown6;subst hv6;have Bu:=F hown6;clear hown6;have j8:=F<|HB2.o.trans hb6;clear hb6))
      go_roundw
      case rel =>
       refine⟨false,[],a++[n],r5,r5,HL2.o,?_,by rw[ae,<-mW.o];exact h9,HI2.o,M0,j8.o⟩;rw[ae,<-mW.o,<-Yk.o];exact Bu.o
      case measure=>simp
     have n7:R=none:=by rw[HR.o,<-cZ];dsimp only;rw[if_pos (by rw[ae,<-hal];simp;omega)]
     have iT:=F n7;clear n7 cZ hal
     go_wp2_with (first
         |(go_at_call 63;refine(lB.o).m ?_;rintro e w2 ⟨rfl,hb2⟩;have eJ:=F<|own_below HO.o hb2;have HB2:=F<|HB.o.trans (hb2.m HB.o.size);have pp:=am hwz hb2.size;clear hb2)
         |(go_at_call 75;refine(EB.o _).m ?_;rintro e w3 ⟨rfl,hw3⟩;subst hw3)
         |(go_at_call 236;refine(Hu.o _).m ?_;rintro e w4 ⟨rfl,hw4⟩;subst hw4)
         |(at_builtin;(refine et rfl (.tmp 39) (.tmp 42) _ rfl w.heap.size 29 i1 (.int .u16 0) 2 underlying223 hi1 hz1 hz2 hz3 P8 _ _ _ (dz a) rfl eJ.o (.int .u16 n) rfl rfl M0 P8 M0 ?_);intro v6 w6 hown6 F4 hb6;obtain⟨Y9,Zj,hv6⟩:=ex hown6;subst hv6;have Bu:=F hown6;clear hown6;have j8:=F<|HB2.o.trans hb6;clear hb6))
     exact⟨rfl,kp.none iT.o j8.o⟩

theorem ET(w:H)(a:Z)(e:TypeId):At (w.alloc (.cells #[a] e)) w.heap.size 0 [a]:=by
 intro j hj;rw[bM,World.cell?_alloc_mark]
 match j,hj with
 |0,_=>rfl
