/- Joined texts. -/
import Derived.Test.YtmndlfglgcioeaaGreatDoorEGFouA
import Derived.Test.YtmndlfglgcioeaaGreatDoorEGPctE
set_option maxHeartbeats 40000000
namespace Go.Proofs.YtmndlfglgcioeaaGreatDoor
open Tryz
open Go.RowKit
set_option maxRecDepth 10000
def kx(b:Int):Int->Bytes->Option Int
 |n,[]=>some n
 |n,c::t=>if fI (b2 c) b<0 then none else kx b (n*b+fI (b2 c) b) t
def jA(s:Bytes):Option Int:=if s=[]∨4<s.length then none else kx 16 0 s
def gV(s:Bytes):Option Int :=
 if s=[]∨3<s.length∨(1<s.length∧s.head? = some 48)then none
 else match kx 10 0 s with|none=>none|some n=>if 255<n then none else some n
def fnL:List Bytes->Option (Int×Int)
 | [p,q,r,t]=>match gV p with|none=>none|some a=>match gV q with|none=>none|some b=>match gV r with|none=>none|some c=>match gV t with|none=>none|some d=>some (256*a+b,256*c+d)
 |_=>none
def fnF(s:Bytes):Option (Int×Int):=fnL (et 46 s)
def endP(nums:Bool)(t:Bytes):Option (List Int):=if nums=true∧46∈t then(fnF t).map (fun v=>[v.1,v.2])else(jA t).map (fun n=>[n])
def rowP(nums:Bool):List Bytes->Option (List Int)
 | []=>some []
 | [t]=>endP nums t
 |t::q::r=>match jA t with|none=>none|some n=>(rowP nums (q::r)).map (n::·)
def qa(nums:Bool)(s:Bytes):Option (List Int) :=
 if s=[]then some []else match rowP nums (et 58 s)with|none=>none|some l=>if 8<l.length then none else some l
def jK:Bytes->Option (Bytes×Bytes)
 |x::y::r=>if x=58∧y=58 then some ([],r)else(jK (y::r)).map fun v=>(x::v.1,v.2)
 |_=>none
def mS(s:Bytes):Option (List Int) :=
 match jK s with
 |none=>match qa true s with|none=>none|some l=>if l.length=8 then some l else none
 |some (a,b)=>match qa false a,qa true b with
  |some l,some r=>if 8<=l.length+r.length then none else some (l++List.replicate (8-l.length-r.length) 0++r)
  |_,_=>none
theorem qG(b:Int)(hb:1<=b)(hd:∀ c,fI c b<b):∀ (l:Bytes) (n v:Int) (m:Nat),0<=n->n<b ^ m->kx b n l=some v->0<=v∧v<b ^ (m+l.length)
 | [],n,v,m,h,h2,e=>by unfold kx at e;injection e with e;subst e;exact⟨h,by simpa using h2⟩
 |c::t,n,v,m,h,h2,e=>by
  unfold kx at e
  split at e
  ·cases e
  next hc =>
  have h3:=eD h (show 0<=b by omega);have h4:(n+1)*b<=b ^ m*b:=fh (by omega) (by omega);rw[b4l,Int.one_mul]at h4;have h5:=hd (b2 c);have:=qG b hb hd t _ v (m+1) (by omega) (by rw[ml];omega) e;rw[show m+1+t.length=m+(c::t).length by simp;omega]at this;exact this
theorem vI(c:Int):fI c 10<10:=by unfold fI;simp only;split <;>omega
theorem tX{t:Bytes}{n:Int}(h:jA t=some n):0<=n∧n<65536:=by
 unfold jA at h
 split at h
 ·cases h
 next hc =>
 have:=qG 16 (by omega) AK t 0 n 0 (by omega) (by decide) h;refine⟨this.1,?_⟩
 have h4:t.length=1∨t.length=2∨t.length=3∨t.length=4:=by
  have:t.length≠0:=fun e=>hc (.inl (ak e));omega
 have h2:=this.2;rcases h4 with e|e|e|e <;>rw[e]at h2 <;>simp at h2 <;>omega
theorem kW{t:Bytes}{n:Int}(h:gV t=some n):0<=n∧n<256:=by
 unfold gV at h
 split at h
 ·cases h
 cases hd:kx 10 0 t with
 |none=>rw[hd]at h;cases h
 |some v =>
  rw[hd]at h;dsimp only at h
  split at h
  ·cases h
  injection h with h
  have:=qG 10 (by omega) vI t 0 v 0 (by omega) (by decide) hd;omega
theorem y8{l:List Bytes}{v:Int×Int}(h:fnL l=some v):(0<=v.1∧v.1<65536)∧(0<=v.2∧v.2<65536):=by
 unfold fnL at h
 split at h
 ·next p q r t =>
  cases ha:gV p with
  |none=>rw[ha]at h;cases h
  |some a =>
   cases hb:gV q with
   |none=>rw[ha,hb]at h;cases h
   |some b =>
    cases hc:gV r with
    |none=>rw[ha,hb,hc]at h;cases h
    |some c =>
     cases hd:gV t with
     |none=>rw[ha,hb,hc,hd]at h;cases h
     |some d =>
      rw[ha,hb,hc,hd]at h;injection h with h
      subst h;have:=kW ha;have:=kW hb;have:=kW hc;have:=kW hd;constructor <;>dsimp only <;>omega
 cases h
theorem Gq{nums:Bool}{t:Bytes}{l:List Int}(h:endP nums t=some l):(∀n∈l,0<=n∧n<65536)∧l.length<=2:=by
 unfold endP at h
 split at h
 ·obtain⟨v,hv,rfl⟩:=dp.mp h
  have:=y8 hv;exact⟨by simp;omega,by simp⟩
 obtain⟨v,hv,rfl⟩:=dp.mp h;have:=tX hv;exact⟨by simp;omega,by simp⟩
theorem xB(nums:Bool):∀ (ps:List Bytes) (l:List Int),rowP nums ps=some l->∀ n∈l,0<=n∧n<65536
 | [],l,h=>by unfold rowP at h;injection h with h;subst h;simp
 | [t],l,h=>by unfold rowP at h;exact(Gq h).1
 |t::q::r,l,h=>by
  unfold rowP at h;cases hp:jA t with
  |none=>rw[hp]at h;cases h
  |some n =>
   rw[hp]at h;obtain⟨v,hv,rfl⟩:=dp.mp h;intro x hx;rcases aj.mp hx with rfl|hx
   ·exact tX hp
   exact xB nums (q::r) v hv x hx
theorem jU{nums:Bool}{s:Bytes}{l:List Int}(h:qa nums s=some l):(∀n∈l,0<=n∧n<65536)∧l.length<=8:=by
 unfold qa at h
 split at h
 ·injection h with h;subst h;simp
 cases hr:rowP nums (et 58 s)with
 |none=>rw[hr]at h;cases h
 |some v =>
  rw[hr]at h;dsimp only at h
  split at h
  ·cases h
  injection h with h;subst h
  exact⟨xB _ _ _ hr,by omega⟩
theorem nK{s:Bytes}{l:List Int}(h:mS s=some l):l.length=8∧∀ n∈l,0<=n∧n<65536:=by
 unfold mS at h
 split at h
 ·cases hr:qa true s with
  |none=>rw[hr]at h;cases h
  |some v =>
   rw[hr]at h;dsimp only at h
   split at h
   ·next h8=>injection h with h;subst h;exact⟨h8,(jU hr).1⟩
   cases h
 next a b hc =>
 split at h
 ·next l' r' hl hr =>
  split at h
  ·cases h
  next h8 =>
  injection h with h;subst h
  have h1:=jU hl;have h2:=jU hr;refine⟨by simp;omega,fun n hn=>?_⟩;rcases au.mp hn with hn|hn
  ·rcases au.mp hn with hn|hn
   ·exact h1.1 n hn
   have:=List.eq_of_mem_replicate hn;omega
  exact h2.1 n hn
 cases h
/- What is written is read. -/
theorem DN(k:Fin 16):fI (b2 (ky k.val)) 16=k.val:=by revert k;decide +kernel
theorem yX(b n:Int)(c:UInt8)(t:Bytes):kx b n (c::t)=if fI (b2 c) b<0 then none else kx b (n*b+fI (b2 c) b) t:=rfl
theorem Do(b:Int):∀ (l m:Bytes) (n:Int),kx b n (l++m)=(kx b n l).bind fun v=>kx b v m
 | [],m,n=>rfl
 |c::t,m,n=>by
  rw[bd,yX,yX]
  split
  ·rfl
  rw[Do b t m]
theorem QY(u:Nat):kx 16 0 (ew u)=some (u:Int):=by
 induction u using Nat.strongRecOn with
 |ind u ih =>
  by_cases h:u<16
  ·rw[im h]
   have:=DN ⟨u,h⟩;dsimp only at this;unfold kx;rw[this,if_neg (by omega)];unfold kx;simp
  rw[lT h,Do,ih (u/16) (by omega)];have:=DN ⟨u%16,by omega⟩;dsimp only at this;show kx 16 _ _=_;unfold kx;rw[this,if_neg (by omega)];unfold kx
  congr 1
  omega
theorem JO(k:Fin 16):ky k.val≠58∧ky k.val≠46:=by revert k;decide +kernel
theorem GB(u:Nat):58∉ew u∧46∉ew u:=by
 induction u using Nat.strongRecOn with
 |ind u ih =>
  by_cases h:u<16
  ·rw[im h]
   have:=JO ⟨u,h⟩;dsimp only at this;exact⟨by simpa using this.1.symm,by simpa using this.2.symm⟩
  rw[lT h];have h1:=ih (u/16) (by omega);have:=JO ⟨u%16,by omega⟩;dsimp only at this;exact⟨by simpa using⟨h1.1,this.1.symm⟩,by simpa using⟨h1.2,this.2.symm⟩⟩
theorem zB{u:Nat}(h:u<65536):jA (ew u)=some (u:Int):=by
 unfold jA;rw[if_neg]
 ·exact QY u
 rintro(e|e)
 ·exact GA u e
 have:=oM 3 u (by omega);omega
def kR:List Bytes->Bytes
 | []=>[]
 | [p]=>p
 |p::q::r=>p++58::kR (q::r)
theorem Jv:∀ ps:List Bytes,ps ≠ []->(∀p∈ps,58∉p)->et 58 (kR ps)=ps
 | [],h,_=>absurd rfl h
 | [p],_,h=>gA (h p (by simp))
 |p::q::r,_,h=>by
  rw[kR,lg,gA (h p (by simp)),Jv (q::r) (by simp) (fun x hx=>h x (be _ hx))];rfl
theorem EA(nums:Bool):∀ l:List Int,(∀n∈l,0<=n∧n<65536)->rowP nums (l.map fun n=>ew n.toNat)=some l
 | [],_=>rfl
 | [n],h=>by
  have hn:=h n (by simp);show endP nums (ew n.toNat)=_;unfold endP;rw[if_neg (fun a=>(GB n.toNat).2 a.2),zB (by omega)];simp;omega
 |n::m::r,h=>by
  have hn:=h n (by simp);have ih:=EA nums (m::r) (fun x hx=>h x (be _ hx));simp only[dw]at ih ⊢;unfold rowP;rw[zB (by omega),ih];simp;omega
theorem xy(nums:Bool)(l:List Int)(h:∀ n∈l,0<=n∧n<65536)(h8:l.length<=8):qa nums (kR (l.map fun n=>ew n.toNat))=some l:=by
 unfold qa;cases l with
 |nil=>rfl
 |cons n r =>
  rw[if_neg,Jv _ (by simp) (by
   intro p hp;obtain⟨m,_,rfl⟩:=cm.mp hp;exact(GB _).1),EA nums _ h]
  ·dsimp only
   rw[if_neg (by omega)]
  intro e;cases r with
  |nil=>exact GA _ e
  |cons m r=>simp[kR]at e
theorem Xb:∀ ps:List Bytes,(∀p∈ps,p ≠ []∧58∉p)->jK (kR ps)=none:=by
 have hp:∀ p:Bytes,58∉p->jK p=none:=by
  intro p
  induction p with
  |nil=>intro _;rfl
  |cons x r ih =>
   intro h;have hx:x≠58:=fun e=>h (by simp[e]);cases r with
   |nil=>rfl
   |cons y r=>unfold jK;rw[if_neg (fun a=>hx a.1),ih (fun a=>h (be _ a))];rfl
 have hq:∀ (p t:Bytes),58∉p->p ≠ []->(t=[]∨∃ y r,t=58::y::r∧y≠58∧jK (y::r)=none)->jK (p++t)=none:=by
  intro p t
  induction p with
  |nil=>intro _ h;exact absurd rfl h
  |cons x r ih =>
   intro h _ ht;rcases ht with rfl|⟨y,r',rfl,hy,hc⟩
   ·rw[aG];exact hp _ h
   have hx:x≠58:=fun e=>h (by simp[e]);cases r with
   |nil =>
    rw[bd,bJ];unfold jK;rw[if_neg (fun a=>hx a.1)];unfold jK;rw[if_neg (fun a=>hy a.2),hc];rfl
   |cons z r =>
    have:=ih (fun a=>h (be _ a)) (by simp) (.inr ⟨y,r',rfl,hy,hc⟩);rw[bd,bd]at *;unfold jK;rw[if_neg (fun a=>hx a.1),this];rfl
 intro ps
 induction ps with
 |nil=>intro _;rfl
 |cons p r ih =>
  intro h;cases r with
  |nil=>exact hp _ (h p (by simp)).2
  |cons q r =>
   have ih':=ih (fun x hx=>h x (be _ hx));have hq1:=h q (by simp)
   obtain⟨y,t,e⟩:∃ y t,kR (q::r)=y::t∧y≠58:=by
    cases q with
    |nil=>exact absurd rfl hq1.1
    |cons y q =>
     have hy:y≠58:=fun e=>hq1.2 (by simp[e]);cases r with
     |nil=>exact⟨y,q,rfl,hy⟩
     |cons r0 r1=>exact⟨y,q++58::kR (r0::r1),by simp[kR],hy⟩
   have h1:=h p (by simp);rw[kR,e.1];rw[e.1]at ih';exact hq p _ h1.2 h1.1 (.inr ⟨y,t,rfl,e.2,ih'⟩)
theorem PW:∀ ps:List Bytes,(∀p∈ps,p ≠ []∧58∉p)->∀ t,jK (kR ps++58::58::t)=some (kR ps,t):=by
 have hp:∀ (p t a b:Bytes),58∉p->(∃y r,t=y::r)->jK t=some (a,b)->(p=[]∨∃ y r,p=y::r)->jK (p++t)=some (p++a,b):=by
  intro p t a b
  induction p with
  |nil=>intro _ _ h _;exact h
  |cons x r ih =>
   intro h ht hc _;have hx:x≠58:=fun e=>h (by simp[e]);have:=ih (fun a=>h (by simp[a])) ht hc (by cases r with|nil=>exact .inl rfl|cons y r=>exact .inr ⟨y,r,rfl⟩);cases r with
   |nil =>
    obtain⟨y,t',rfl⟩:=ht;rw[bd,bJ];unfold jK;rw[if_neg (fun a=>hx a.1),hc];rfl
   |cons z r =>
    rw[bd,bd]at *;unfold jK;rw[if_neg (fun a=>hx a.1),this];rfl
 intro ps
 induction ps with
 |nil=>intro _ t;show jK (58::58::t)=_;unfold jK;rw[if_pos ⟨rfl,rfl⟩];rfl
 |cons p r ih =>
  intro h t;have h1:=h p (by simp);have hpe:p=[]∨∃ y r,p=y::r:=by cases p with|nil=>exact .inl rfl|cons y r=>exact .inr ⟨y,r,rfl⟩
  cases r with
  |nil =>
   have:=hp p (58::58::t) [] t h1.2 ⟨_,_,rfl⟩ (by unfold jK;rw[if_pos ⟨rfl,rfl⟩]) hpe;rw[aG]at this;exact this
  |cons q r =>
   have ih':=ih (fun x hx=>h x (be _ hx)) t;have hq1:=h q (by simp)
   obtain⟨y,t',e⟩:∃ y t',kR (q::r)=y::t'∧y≠58:=by
    cases q with
    |nil=>exact absurd rfl hq1.1
    |cons y q =>
     have hy:y≠58:=fun e=>hq1.2 (by simp[e]);cases r with
     |nil=>exact⟨y,q,rfl,hy⟩
     |cons r0 r1=>exact⟨y,q++58::kR (r0::r1),by simp[kR],hy⟩
   have zd:jK (58::(kR (q::r)++58::58::t))=some (58::kR (q::r),t):=by
    rw[e.1]at ih' ⊢;rw[bd]at *;unfold jK;rw[if_neg (fun a=>e.2 a.2),ih'];rfl
   have:=hp p (58::(kR (q::r)++58::58::t)) (58::kR (q::r)) t h1.2 ⟨_,_,rfl⟩ zd hpe;rw[kR,aT];exact this
def EN:Nat->Nat->List Nat
 |0,_=>[]
 |1,lo=>[lo]
 |n+2,lo=>lo::100::EN (n+1) (lo+1)
theorem Ty:∀ z∈ZC,(if(m7 z).1<(m7 z).2 then jn (m7 z).1 (m7 z).2 9 0=EN (m7 z).1 0++101::EN (8-(m7 z).2) (m7 z).2∧(∀i∈List.range 8,(m7 z).1<=i->i<(m7 z).2->z.getD i false=true)else jn (m7 z).1 (m7 z).2 9 0=EN 8 0):=by decide +kernel
theorem r4(a:List Int):∀ (n lo:Nat),lo+n<=8->lo+n<=a.length->gp a (EN n lo)=kR (((a.drop lo).take n).map fun x=>ew x.toNat)
 |0,lo,_,_=>rfl
 |1,lo,h,h2=>by
  rw[aq (by omega)];show jh a lo++[]=ew _;unfold jh;rw[if_neg (by omega),if_neg (by omega),aG,eH,aJ (show lo<a.length by omega)];rfl
 |n+2,lo,h,h2=>by
  have ih:=r4 a (n+1) (lo+1) (by omega) (by omega);rw[aq (show lo+1<a.length by omega)]at ih;rw[aq (show lo<a.length by omega),aq (show lo+1<a.length by omega)];simp only[cY,dw]at ih ⊢;rw[kR,<-ih];show jh a lo++(jh a 100++gp a (EN (n+1) (lo+1)))=_;have e1:jh a 100=[58]:=by unfold jh;rw[if_pos rfl]
  have e2:jh a lo=ew (a[lo]'(by omega)).toNat:=by
   unfold jh;rw[if_neg (by omega),if_neg (by omega),eH,aJ (show lo<a.length by omega)];rfl
  rw[e1,e2];rfl
theorem Tl(a:List Int)(h8:a.length=8)(ha:∀ n∈a,0<=n∧n<65536):mS (kS a)=some a:=by
 have ht:=Ty (qf a) (oU _ (by rw[pY,h8]));have a47:=se (qf a) (oU _ (by rw[pY,h8]))
 have hne:∀ (l:List Int) (p:Bytes),p∈l.map (fun x=>ew x.toNat)->p ≠ []∧58∉p:=by
  intro l p hp;obtain⟨m,_,rfl⟩:=cm.mp hp;exact⟨GA _,(GB _).1⟩
 unfold kS;obtain⟨b,hb⟩:=az ((m7 (qf a)).1);obtain⟨e,he⟩:=az ((m7 (qf a)).2);rw[<-hb,<-he]at ht a47 ⊢
 split at ht
 ·next hbe =>
  obtain⟨ht,hz⟩:=ht;have he8:e<=8:=a47.2.2.1;rw[ht]
  have er:gp a (EN b 0++101::EN (8-e) e)=kR ((a.take b).map fun x=>ew x.toNat)++58::58::kR ((a.drop e).map fun x=>ew x.toNat):=by
   have h1:=r4 a b 0 (by omega) (by omega);have h2:=r4 a (8-e) e (by omega) (by omega);rw[cU]at h1;rw[aP (by rw[ah];omega)]at h2;unfold gp at *;rw[cQ,ch,h1,h2];rfl
  rw[er];unfold mS;rw[PW _ (hne _)];dsimp only;rw[xy false _ (fun n hn=>ha n (Cf hn)) (by rw[aE];omega),xy true _ (fun n hn=>ha n (List.mem_of_mem_drop hn)) (by rw[ah];omega)];dsimp only;rw[if_neg (by rw[aE,ah];omega)]
  congr 1
  rw[aE,ah]
  apply List.ext_getElem
  ·simp;omega
  intro i h1 h2;rw[List.getElem_append]
  split
  ·next hi =>
   rw[List.getElem_append]
   split
   ·simp
   next hi2 =>
   rw[List.getElem_replicate];simp at hi hi2;have:=hz i (by simp;omega) (by omega) (by omega);unfold qf at this;rw[eH,eI,aJ (show i<a.length by omega)]at this;exact(of_decide_eq_true this).symm
  next hi =>
  rw[sA]
  congr 1
  simp at hi ⊢;omega
 rw[ht];have h1:=r4 a 8 0 (by omega) (by omega);rw[cU,aP (by omega)]at h1;rw[h1];unfold mS;rw[Xb _ (hne _)];dsimp only;rw[xy true _ ha (by omega)];dsimp only;rw[if_pos h8]

theorem mN(b:UInt8)(l m:Bytes):Lib.cut (b::l) m=if m.isPrefixOf (b::l)then([],(b::l).drop m.length,true)else if(Lib.cut l m).2.2=true then(b::(Lib.cut l m).1,(Lib.cut l m).2.1,true)else(b::l,[],false):=by
 have hge:=Lib.index_ge l m
 have e:Lib.index (b::l) m=if m.isPrefixOf (b::l)=true then 0 else if Lib.index l m=-1 then -1 else Lib.index l m+1:=by
  rw[Lib.index];simp only[beq_iff_eq]
 by_cases h:m.isPrefixOf (b::l)=true
 ·rw[if_pos h]at e ⊢
  unfold Lib.cut;rw[e];simp
 rw[if_neg h]at e ⊢;by_cases h1:Lib.index l m=-1
 ·rw[if_pos h1]at e
  have e1:Lib.cut l m=(l,[],false):=by unfold Lib.cut;rw[h1];rfl
  have e2:Lib.cut (b::l) m=(b::l,[],false):=by unfold Lib.cut;rw[e];rfl
  rw[e1,e2];rfl
 rw[if_neg h1]at e;have e1:Lib.cut l m=(l.take (Lib.index l m).toNat,l.drop ((Lib.index l m).toNat+m.length),true):=by unfold Lib.cut;rw[if_pos (by omega)]
 have e2:Lib.cut (b::l) m=((b::l).take (Lib.index l m+1).toNat,(b::l).drop ((Lib.index l m+1).toNat+m.length),true):=by unfold Lib.cut;rw[e,if_pos (by omega)]
 have e3:(Lib.index l m+1).toNat=(Lib.index l m).toNat+1:=by omega
 rw[e1,e2,e3,cY,Nat.add_right_comm,Fo];rfl
theorem PX(x y:UInt8)(r:Bytes):jK (x::y::r)=if x=58∧y=58 then some ([],r)else(jK (y::r)).map fun v=>(x::v.1,v.2):=rfl
theorem rT{c:UInt8}:∀ {s:Bytes},c∉s->Lib.cut s [c]=(s,[],false)
 | [],_=>rfl
 |b::l,h=>by
  have hb:¬ b=c:=fun e=>h (by simp[e]);rw[mN,rT (fun a=>h (be _ a)),if_neg (by simp[List.isPrefixOf];exact fun e=>hb e.symm),if_neg (by simp)]
theorem oT{c:UInt8}:∀ {s:Bytes},c∈s->∃ p r,s=p++c::r∧c∉p∧Lib.cut s [c]=(p,r,true)
 | [],h=>absurd h (by simp)
 |b::l,h=>by
  by_cases hb:b=c
  ·subst hb
   exact⟨[],l,rfl,by simp,by rw[mN,if_pos (by simp[List.isPrefixOf])];rfl⟩
  obtain⟨p,r,h1,h2,h3⟩:=oT (s:=l) (by
   rcases aj.mp h with e|e
   ·exact absurd e.symm hb
   exact e)
  refine⟨b::p,r,by rw[h1];rfl,?_,?_⟩
  ·intro e
   rcases aj.mp e with e|e
   ·exact hb e.symm
   exact h2 e
  rw[mN,h3,if_neg (by simp[List.isPrefixOf];exact fun e=>hb e.symm),if_pos rfl]
theorem wX:∀ s:Bytes,Lib.cut s [58,58]=match jK s with|none=>(s,[],false)|some v=>(v.1,v.2,true)
 | []=>rfl
 | [x]=>by
  rw[mN,if_neg (by simp[List.isPrefixOf])];rfl
 |x::y::r=>by
  have ih:=wX (y::r);rw[mN,ih,PX];by_cases h:x=58∧y=58
  ·obtain⟨rfl,rfl⟩:=h
   rw[if_pos (by simp[List.isPrefixOf]),if_pos ⟨rfl,rfl⟩];rfl
  rw[if_neg h,if_neg]
  ·cases jK (y::r) <;>simp
  simp[List.isPrefixOf];exact fun a b=>h ⟨a.symm,b.symm⟩
theorem jE(l m:Bytes)(w:World)(hl:l.length<=1024000000)(hE:Env w):bN prog 68 #[.string (bs l),.string (bs m)] w (.tuple #[S (Lib.cut l m).1,S (Lib.cut l m).2.1,.bool (Lib.cut l m).2.2]):=by
 obtain⟨_,M,hM⟩:=hE;have h:=Any.strings_Cut laysCutAt (bs l) (bs m) M w (by rw[aM];omega) hM;rw[show(bs l).data.toList=l from dR l,show(bs m).data.toList=m from dR m]at h;refine h.mono ?_;rintro e w' ⟨rfl,n,rfl⟩;exact⟨rfl,ei (Below.refl _ _) n⟩
abbrev Jc:Ending:=.panicked [{v:=.iface 211 (.agg #[]),recovered:=false}]
def a8N:Option Int->Ending|some n=>.returned (.int .i64 n)|none=>Jc
def a91:Option Int->Ending|some n=>.returned (.int .u16 n)|none=>Jc
theorem sJ(b n:Int){l:Bytes}{k:Nat}(h:k<l.length):kx b n (l.drop k)=if fI (b2 l[k]) b<0 then none else kx b (n*b+fI (b2 l[k]) b) (l.drop (k+1)):=by
 rw[aq h];rfl
theorem Di(l:Bytes)(w:World)(hl:l.length<=1024000000):Calls prog 227 #[.string (bs l)] w fun e w'=>e=a8N (gV l)∧w'=w:=by
 obtain⟨R,hR⟩:=az (gV l);rw[<-hR];unfold gV at hR;obtain⟨s,hs⟩:=az (bs l);have hsz:s.size=l.length:=by rw[hs,aM]
 have hby:∀ k (hk:k<s.size) (hk2:k<l.length),((s[k]'hk).toNat:Int)=b2 l[k]:=fun k hk hk2=>cJ hs hk hk2;have hue:(s.toList=[]) ↔ l=[]:=by rw[hs,ay]
 rw[<-hs];clear hs;obtain⟨N,hN⟩:=az (s.size);have lk:s.size=N:=hN.symm;have p7:N<=1024000000:=by omega
 have ou:N=l.length:=by omega
 clear hN hsz hl;by_cases hnil:l=[]
 ·rw[if_pos (.inl hnil)]at hR
  have he2:=hue.mpr hnil;have he:s.toList.isEmpty=true:=by rw[he2];rfl
  clear hue hby ou;have HR:=h_ hR;clear hR;go_enter func227,ntmps227
  go_wp2_with fail
  exact⟨rfl,by rw[HR.out];rfl,rfl⟩
 have he2:¬ s.toList=[]:=fun h=>hnil (hue.mp h);have he:s.toList.isEmpty=false:=by simpa using he2
 clear hue;by_cases h3:3<N
 ·rw[if_pos (.inr (.inl (by omega)))]at hR
  clear hby ou;have HR:=h_ hR;clear hR;go_enter func227,ntmps227
  go_wp2_with fail
  exact⟨rfl,by rw[HR.out];rfl,rfl⟩
 have hN0:0<N:=by have:l.length≠0:=fun e=>hnil (ak e);omega
 have hs0:0<s.size:=by rw[lk];exact hN0
 have hx0:=hby 0 hs0 (by omega);by_cases hz:1<N∧b2 (l[0]'(by omega))=48
 ·rw[if_pos (.inr (.inr ⟨by omega,by
   rw[b0R,aJ (by omega)];exact congrArg some (fB (y:=48) (hz.2.trans (by decide)))⟩))]at hR
  rw[hz.2]at hx0;obtain⟨h1,-⟩:=hz;clear hby ou;have HR:=h_ hR;clear hR;go_enter func227,ntmps227
  go_wp2_with fail
  exact⟨rfl,by rw[HR.out];rfl,rfl⟩
 rw[if_neg (by
  rintro(h|h|⟨h,h'⟩)
  ·exact hnil h
  ·omega
  refine hz ⟨by omega,?_⟩;rw[b0R,aJ (by omega)]at h';injection h' with h'
  rw[h'];decide)]at hR
 obtain⟨X,hX⟩:=az (b2 (l[0]'(by omega)));rw[<-hX]at hx0 hz;have hz1:1<N->(X==48)=false:=fun h=>by simp;exact fun e=>hz ⟨h,e⟩
 clear hX hz;have HR:=h_ hR;clear hR;have kd:=h_ hby;clear hby;have fL:=h_ ou;clear ou;have Zh:=h_ hnil;clear hnil;obtain⟨D0,hD0⟩:=az (kx 10 0 l);have hr:=HR.out;rw[<-hD0]at hr;have HR:=h_ hr;clear hr;have HD:=h_ hD0;clear hD0
 have DU:∀ k:Nat,k<=3->(10:Int) ^ k<=1000:=by
  intro k hk;have:k=0∨k=1∨k=2∨k=3:=by omega
  rcases this with rfl|rfl|rfl|rfl <;>decide
 have X0:=h_ DU;clear DU;by_cases h1N:1<N
 ·have hz2:=hz1 h1N
  clear hz1;go_enter func227,ntmps227
  go_wp2_with fail
  go_loopw [3,27] (fun nv iv wr=>∃ (k:Nat) (n:Int),k<=N∧iv=.int .i64 k∧nv=.int .i64 n∧Hid (kx 10 n (l.drop k)=D0)∧0<=n∧n<10 ^ k∧w=wr) (fun _ i _=>N-(intOf i).toNat)
  case atStart=>exact⟨0,0,aK _,by simp,by simp,HD.out.symm,by omega,by decide,rfl⟩
  case round =>
   obtain⟨k,n,hk,rfl,rfl,hd,hn0,hn1,rfl⟩:=hrel;have hp:=X0.out k (by omega);by_cases hlt:k<N
   ·have nS:k<s.size:=by rw[lk];exact hlt
    have hkl:k<l.length:=by have:=fL.out;omega
    have hx:=kd.out k nS hkl;have hst:=sJ 10 n hkl;rw[hd.out]at hst;have hr:=jr (l[k]'hkl);have hda:=fun W=>dB (b2 (l[k]'hkl)) 10 W hr (by omega);have hlo:=vI (b2 (l[k]'hkl));obtain⟨D,hD⟩:=az (fI (b2 (l[k]'hkl)) 10);rw[<-hD]at hst hda hlo;clear hD;generalize b2 (l[k]'hkl)=Y at hx hr hda;have vl:=h_ hda;clear hda hd;by_cases hD0:D<0
    ·rw[if_pos hD0]at hst
     have hr:=HR.out;rw[hst]at hr;have HST:=h_ hr;clear hst hr;have XY:=h_ hn1;clear hn1 hp
     go_wp2_with (first|(go_at_call 62;refine(vl.out _).mono ?_;rintro e w2 ⟨rfl,hw2⟩;subst hw2)|fail)
     exact⟨rfl,by rw[HST.out];rfl,rfl⟩
    rw[if_neg hD0]at hst;have hn2:n*10+D<10 ^ (k+1):=by rw[ml];omega
    have hw1:IntKind.i64.wrap (n*10)=n*10:=IntWalk.i64_in _ (by omega);have hw2:IntKind.i64.wrap (n*10+D)=n*10+D:=IntWalk.i64_in _ (by omega);have HST:=h_ hst;clear hst;have XY:=h_ hn1;clear hn1 hp;have ow:=h_ hn2;clear hn2
    go_wp2_with (first|(go_at_call 62;refine(vl.out _).mono ?_;rintro e w2 ⟨rfl,hw2⟩;subst hw2)|fail)
    go_roundw
    case rel=>exact⟨k+1,n*10+D,by omega,by simp,by simp;try omega,HST.out.symm,by omega,ow.out,by trivial⟩
    case measure=>simp[intOf];omega
   obtain rfl:k=N:=by omega
   have hdr:l.drop k=[]:=bB (by have:=fL.out;omega);have hd1:=hd.out;rw[hdr]at hd1;have hr:=HR.out;rw[show D0=some n from hd1.symm]at hr;have HST:=h_ (show R=if 255<n then none else some n from hr);clear hd1 hr hd;clear hn1 hp;by_cases QK:255<n
   ·rw[if_pos QK]at HST
    go_wp2_with fail
    exact⟨rfl,by rw[HST.out];rfl,rfl⟩
   rw[if_neg QK]at HST
   go_wp2_with fail
   go_ret;exact⟨by rw[HST.out];rfl,rfl⟩
 clear hz1;go_enter func227,ntmps227
 go_wp2_with fail
 go_loopw [3,27] (fun nv iv wr=>∃ (k:Nat) (n:Int),k<=N∧iv=.int .i64 k∧nv=.int .i64 n∧Hid (kx 10 n (l.drop k)=D0)∧0<=n∧n<10 ^ k∧w=wr) (fun _ i _=>N-(intOf i).toNat)
 case atStart=>exact⟨0,0,aK _,by simp,by simp,HD.out.symm,by omega,by decide,rfl⟩
 case round =>
  obtain⟨k,n,hk,rfl,rfl,hd,hn0,hn1,rfl⟩:=hrel;have hp:=X0.out k (by omega);by_cases hlt:k<N
  ·have nS:k<s.size:=by rw[lk];exact hlt
   have hkl:k<l.length:=by have:=fL.out;omega
   have hx:=kd.out k nS hkl;have hst:=sJ 10 n hkl;rw[hd.out]at hst;have hr:=jr (l[k]'hkl);have hda:=fun W=>dB (b2 (l[k]'hkl)) 10 W hr (by omega);have hlo:=vI (b2 (l[k]'hkl));obtain⟨D,hD⟩:=az (fI (b2 (l[k]'hkl)) 10);rw[<-hD]at hst hda hlo;clear hD;generalize b2 (l[k]'hkl)=Y at hx hr hda;have vl:=h_ hda;clear hda hd;by_cases hD0:D<0
   ·rw[if_pos hD0]at hst
    have hr:=HR.out;rw[hst]at hr;have HST:=h_ hr;clear hst hr;have XY:=h_ hn1;clear hn1 hp
    go_wp2_with (first|(go_at_call 62;refine(vl.out _).mono ?_;rintro e w2 ⟨rfl,hw2⟩;subst hw2)|fail)
    exact⟨rfl,by rw[HST.out];rfl,rfl⟩
   rw[if_neg hD0]at hst;have hn2:n*10+D<10 ^ (k+1):=by rw[ml];omega
   have hw1:IntKind.i64.wrap (n*10)=n*10:=IntWalk.i64_in _ (by omega);have hw2:IntKind.i64.wrap (n*10+D)=n*10+D:=IntWalk.i64_in _ (by omega);have HST:=h_ hst;clear hst;have XY:=h_ hn1;clear hn1 hp;have ow:=h_ hn2;clear hn2
   go_wp2_with (first|(go_at_call 62;refine(vl.out _).mono ?_;rintro e w2 ⟨rfl,hw2⟩;subst hw2)|fail)
   go_roundw
   case rel=>exact⟨k+1,n*10+D,by omega,by simp,by simp;try omega,HST.out.symm,by omega,ow.out,by trivial⟩
   case measure=>simp[intOf];omega
  obtain rfl:k=N:=by omega
  have hdr:l.drop k=[]:=bB (by have:=fL.out;omega);have hd1:=hd.out;rw[hdr]at hd1;have hr:=HR.out;rw[show D0=some n from hd1.symm]at hr;have HST:=h_ (show R=if 255<n then none else some n from hr);clear hd1 hr hd;clear hn1 hp;by_cases QK:255<n
  ·rw[if_pos QK]at HST
   go_wp2_with fail
   exact⟨rfl,by rw[HST.out];rfl,rfl⟩
  rw[if_neg QK]at HST
  go_wp2_with fail
  go_ret;exact⟨by rw[HST.out];rfl,rfl⟩

theorem zA(l:Bytes)(w:World)(hl:l.length<=1024000000):Calls prog 217 #[.string (bs l)] w fun e w'=>e=a91 (jA l)∧w'=w:=by
 obtain⟨R,hR⟩:=az (jA l);rw[<-hR];unfold jA at hR;obtain⟨s,hs⟩:=az (bs l);have hsz:s.size=l.length:=by rw[hs,aM]
 have hby:∀ k (hk:k<s.size) (hk2:k<l.length),((s[k]'hk).toNat:Int)=b2 l[k]:=fun k hk hk2=>cJ hs hk hk2;have hue:(s.toList=[]) ↔ l=[]:=by rw[hs,ay]
 rw[<-hs];clear hs;obtain⟨N,hN⟩:=az (s.size);have lk:s.size=N:=hN.symm;have p7:N<=1024000000:=by omega
 have ou:N=l.length:=by omega
 clear hN hsz hl;by_cases hnil:l=[]
 ·rw[if_pos (.inl hnil)]at hR
  have he2:=hue.mpr hnil;have he:s.toList.isEmpty=true:=by rw[he2];rfl
  clear hue hby ou;have HR:=h_ hR;clear hR;go_enter func217,ntmps217
  go_wp2_with fail
  exact⟨rfl,by rw[HR.out];rfl,rfl⟩
 have he2:¬ s.toList=[]:=fun h=>hnil (hue.mp h);have he:s.toList.isEmpty=false:=by simpa using he2
 clear hue;by_cases h3:4<N
 ·rw[if_pos (.inr (by omega))]at hR
  clear hby ou;have HR:=h_ hR;clear hR;go_enter func217,ntmps217
  go_wp2_with fail
  exact⟨rfl,by rw[HR.out];rfl,rfl⟩
 rw[if_neg (by
  rintro(h|h)
  ·exact hnil h
  omega)]at hR
 have HR:=h_ hR;clear hR;have kd:=h_ hby;clear hby;have fL:=h_ ou;clear ou;have Zh:=h_ hnil;clear hnil;obtain⟨D0,hD0⟩:=az (kx 16 0 l);have hr:=HR.out;rw[<-hD0]at hr;have HR:=h_ hr;clear hr;have HD:=h_ hD0;clear hD0
 have DU:∀ k:Nat,k<=4->(16:Int) ^ k<=65536:=by
  intro k hk;have:k=0∨k=1∨k=2∨k=3∨k=4:=by omega
  rcases this with rfl|rfl|rfl|rfl|rfl <;>decide
 have X0:=h_ DU;clear DU;go_enter func217,ntmps217
 go_wp2_with fail
 go_loopw [3,17] (fun nv iv wr=>∃ (k:Nat) (n:Int),k<=N∧iv=.int .i64 k∧nv=.int .i64 n∧Hid (kx 16 n (l.drop k)=D0)∧0<=n∧n<16 ^ k∧w=wr) (fun _ i _=>N-(intOf i).toNat)
 case atStart=>exact⟨0,0,aK _,by simp,by simp,HD.out.symm,by omega,by decide,rfl⟩
 case round =>
  obtain⟨k,n,hk,rfl,rfl,hd,hn0,hn1,rfl⟩:=hrel;have hp:=X0.out k (by omega);by_cases hlt:k<N
  ·have nS:k<s.size:=by rw[lk];exact hlt
   have hkl:k<l.length:=by have:=fL.out;omega
   have hx:=kd.out k nS hkl;have hst:=sJ 16 n hkl;rw[hd.out]at hst;have hr:=jr (l[k]'hkl);have hda:=fun W=>dB (b2 (l[k]'hkl)) 16 W hr (by omega);have hlo:=AK (b2 (l[k]'hkl));obtain⟨D,hD⟩:=az (fI (b2 (l[k]'hkl)) 16);rw[<-hD]at hst hda hlo;clear hD;generalize b2 (l[k]'hkl)=Y at hx hr hda;have vl:=h_ hda;clear hda hd;by_cases hD0:D<0
   ·rw[if_pos hD0]at hst
    have hr:=HR.out;rw[hst]at hr;have HST:=h_ hr;clear hst hr;have XY:=h_ hn1;clear hn1 hp
    go_wp2_with (first|(go_at_call 62;refine(vl.out _).mono ?_;rintro e w2 ⟨rfl,hw2⟩;subst hw2)|fail)
    exact⟨rfl,by rw[HST.out];rfl,rfl⟩
   rw[if_neg hD0]at hst;have hn2:n*16+D<16 ^ (k+1):=by rw[ml];omega
   have hw1:IntKind.i64.wrap (n*16)=n*16:=IntWalk.i64_in _ (by omega);have hw2:IntKind.i64.wrap (n*16+D)=n*16+D:=IntWalk.i64_in _ (by omega);have HST:=h_ hst;clear hst;have XY:=h_ hn1;clear hn1 hp;have ow:=h_ hn2;clear hn2
   go_wp2_with (first|(go_at_call 62;refine(vl.out _).mono ?_;rintro e w2 ⟨rfl,hw2⟩;subst hw2)|fail)
   go_roundw
   case rel=>exact⟨k+1,n*16+D,by omega,by simp,by simp;try omega,HST.out.symm,by omega,ow.out,by trivial⟩
   case measure=>simp[intOf];omega
  obtain rfl:k=N:=by omega
  have hdr:l.drop k=[]:=bB (by have:=fL.out;omega);have hd1:=hd.out;rw[hdr]at hd1;have hr:=HR.out;rw[show D0=some n from hd1.symm]at hr;have hwr:IntKind.u16.wrap n=n:=by rw[IntKind.wrap_u16];omega
  have HST:=h_ (show R=some n from hr);clear hd1 hr hd;clear hn1 hp
  go_wp2_with fail
  go_ret;exact⟨by rw[HST.out];rfl,rfl⟩

def AU:Nat->Int->Bytes->Option Int
 |0,n,_=>some n
 |r+1,n,s=>if(Lib.cut s [46]).2.2≠decide (0<r)then none else match gV (Lib.cut s [46]).1 with|none=>none|some d=>AU r (n*256+d) (Lib.cut s [46]).2.1
def Gt:Nat->Int->List Bytes->Option Int
 |0,n,_=>some n
 |_+1,_,[]=>none
 |r+1,n,p::ps=>if(!ps.isEmpty)≠decide (0<r)then none else match gV p with|none=>none|some d=>Gt r (n*256+d) ps
theorem y7:∀ (r:Nat) (n:Int) (s:Bytes),AU r n s=Gt r n (et 46 s)
 |0,_,_=>rfl
 |r+1,n,s=>by
  by_cases h:(46:UInt8)∈s
  ·obtain⟨p,t,h1,h2,h3⟩:=oT h
   obtain⟨q,qs,hq⟩:=kI 46 t;have e:et 46 s=p::et 46 t:=by rw[h1,lg,gA h2];rfl
   unfold AU;rw[e,h3];show _=if(!(et 46 t).isEmpty)≠decide (0<r)then none else match gV p with|none=>none|some d=>Gt r (n*256+d) (et 46 t)
   have e2:(!(et 46 t).isEmpty)=true:=by rw[hq];rfl
   rw[e2];dsimp only
   split
   ·rfl
   cases gV p with
   |none=>rfl
   |some d=>exact y7 r _ t
  have h3:=rT h;have e:et 46 s=[s]:=gA h;unfold AU;rw[e,h3];show _=if(!([]:List Bytes).isEmpty)≠decide (0<r)then none else match gV s with|none=>none|some d=>Gt r (n*256+d) []
  have e2:(!([]:List Bytes).isEmpty)=false:=rfl;rw[e2];dsimp only;by_cases hr:0<r
  ·rw[if_pos (by simp[hr]),if_pos (by simp[hr])]
  obtain rfl:r=0:=by omega
  rw[if_neg (by simp),if_neg (by simp)];rfl
theorem a0d(l:List Bytes)(hne:l ≠ []):Gt 4 0 l=(fnL l).map fun v=>v.1*65536+v.2:=by
 have h2:∀ r n p ps,Gt (r+1) n (p::ps)=if(!ps.isEmpty)≠decide (0<r)then none else match gV p with|none=>none|some d=>Gt r (n*256+d) ps:=fun _ _ _ _=>rfl
 match l,hne with
 | [],h=>exact absurd rfl h
 | [p],_=>rw[h2];rfl
 | [p,q],_=>rw[h2,if_neg (by simp)];cases gV p <;>rfl
 | [p,q,r],_ =>
  rw[h2,if_neg (by simp)];cases gV p with
  |none=>rfl
  |some a =>
   dsimp only;rw[h2,if_neg (by simp)];cases gV q <;>rfl
 | [p,q,r,t],_ =>
  have e:fnL [p,q,r,t]=match gV p with|none=>none|some a=>match gV q with|none=>none|some b=>match gV r with|none=>none|some c=>match gV t with|none=>none|some d=>some (256*a+b,256*c+d):=rfl
  rw[h2,if_neg (by simp),e];clear e;cases gV p with
  |none=>rfl
  |some a =>
   dsimp only;rw[h2,if_neg (by simp)];cases gV q with
   |none=>rfl
   |some b =>
    dsimp only;rw[h2,if_neg (by simp)];cases gV r with
    |none=>rfl
    |some c =>
     dsimp only;rw[h2,if_neg (by simp)];cases gV t with
     |none=>rfl
     |some d =>
      show some _=some _
      congr 1
      dsimp only;omega
 |p::q::r::t::u::v,_ =>
  have e:fnL (p::q::r::t::u::v)=none:=rfl;rw[h2,if_neg (by simp),e];cases gV p with
  |none=>rfl
  |some a =>
   dsimp only;rw[h2,if_neg (by simp)];cases gV q with
   |none=>rfl
   |some b =>
    dsimp only;rw[h2,if_neg (by simp)];cases gV r with
    |none=>rfl
    |some c =>
     dsimp only;rw[h2,if_pos (by simp)];rfl
theorem a0e(s:Bytes):AU 4 0 s=(fnF s).map fun v=>v.1*65536+v.2:=by
 rw[y7];exact a0d _ (by obtain⟨p,ps,h⟩:=kI 46 s;rw[h];simp)
def a8O:Option (Int×Int)->Ending|some v=>.returned (.tuple #[.int .u16 v.1,.int .u16 v.2])|none=>Jc
theorem MW(v:Nat)(hv:v<4294967296):bits BinOp.and IntKind.i64 (v:Int) 65535=((v%65536:Nat):Int):=by
 have h:=bits_mask .i64 63 (by decide) (fun n h0 h1=>IntWalk.i64_in _ (by omega)) 16 (by decide) (v:Int) (by omega) (by omega);have e:((2:Int) ^ 16-1)=65535:=by decide
 have e2:((2:Int) ^ 16)=65536:=by decide
 rw[e,e2]at h;rw[h];omega
theorem Df(s m:Bytes):(Lib.cut s m).2.1.length<=s.length∧(Lib.cut s m).1.length<=s.length:=by
 unfold Lib.cut
 split
 ·simp[List.length_drop,List.length_take];omega
 simp
theorem DG(l:Bytes)(w:World)(hl:l.length<=1024000000)(hE:Env w):Calls prog 216 #[.string (bs l)] w fun e w'=>e=a8O (fnF l)∧Below w.heap.size w w':=by
 have hF:=a0e l;have hrg:∀ v,fnF l=some v->(0<=v.1∧v.1<65536)∧(0<=v.2∧v.2<65536):=fun v h=>y8 h;obtain⟨R,hR⟩:=az (fnF l);rw[<-hR]at hF hrg ⊢;clear hR;obtain⟨s,hs⟩:=az (bs l);rw[<-hs];have HS:=h_ hs;clear hs;have HF:=h_ hF;clear hF;have Oe:=h_ hrg;clear hrg;have Uc:=h_ hE;clear hE;have HL:=h_ hl;clear hl
 have DU:∀ k:Nat,k<=3->(256:Int) ^ k<=16777216:=by
  intro k hk;have:k=0∨k=1∨k=2∨k=3:=by omega
  rcases this with rfl|rfl|rfl|rfl <;>decide
 have X0:=h_ DU;clear DU;go_enter func216,ntmps216
 go_wp2_with fail
 go_loopw [0,4,9] (fun sv nv iv wr=>∃ (k:Nat) (n:Int) (t:Bytes),k<=4∧iv=.int .i64 k∧nv=.int .i64 n∧sv=.string (bs t)∧Hid (AU (4-k) n t=R.map fun v=>v.1*65536+v.2)∧Hid (t.length<=l.length)∧0<=n∧Hid (n<256 ^ k)∧Below w.heap.size w wr) (fun _ _ i _=>4-(intOf i).toNat)
 case atStart=>exact⟨0,0,l,by omega,by simp,by simp,by rw[HS.out],HF.out,af _,by omega,(by decide:(0:Int)<256 ^ 0),Below.refl _ _⟩
 case round =>
  obtain⟨k,n,t,hk,rfl,rfl,rfl,hf,htl,hn0,hn1,hb⟩:=hrel;have HB:=h_ hb;clear hb;by_cases hlt:k<4
  ·have hcr:=Df t [46]
   have mY:=fun W (h:Below w.heap.size w W)=>jE t [46] W (by have:=htl.out;have:=HL.out;omega) (Uc.out.below h);rw[show bs [46]=⟨#[46]⟩from rfl]at mY;have hf1:=hf.out;rw[show 4-k=(3-k)+1 by omega]at hf1;unfold AU at hf1;obtain⟨c1,c2,c3,hc⟩:∃ c1 c2 c3,Lib.cut t [46]=(c1,c2,c3):=⟨_,_,_,rfl⟩;rw[hc]at mY hf1 hcr;dsimp only at mY hf1 hcr;have hl1:c1.length<=1024000000:=by have:=htl.out;have:=HL.out;omega
   have hl2:c2.length<=l.length:=by have:=htl.out;omega
   have hdc:=fun W=>Di c1 W hl1;have mt:=h_ (mY _ HB.out);clear mY hc hf;have HL2:=h_ hl2;clear hl2 hl1 hcr htl;obtain⟨u,hu⟩:=az (bs t);rw[<-hu]at mt;rw[<-hu];clear hu;have hk3:k<3∨k=3:=by omega
   have XY:=h_ hn1.out;clear hn1;have hp:=X0.out k (by omega);have JP:n<16777216:=by have:=XY.out;omega
   have hn2:∀ d:Int,d<256->n*256+d<256 ^ (k+1):=fun d hd=>by rw[ml];have:=XY.out;omega
   clear hp;have a0O:IntKind.i64.wrap (n*256)=n*256:=IntWalk.i64_in _ (by omega);have ow:=h_ hn2;clear hn2;cases c3 with
   |true =>
    rcases hk3 with hk3|rfl
    ·rw[if_neg (by simp;omega)]at hf1
     have a0A:(k:Int)<3:=by omega
     cases hdd:gV c1 with
     |none =>
      rw[hdd]at hf1 hdc;have oK:R=none:=by cases R with|none=>rfl|some v=>cases hf1
      have kC:=h_ oK;clear oK hf1
      change ∀W,Calls _ _ _ W fun e w'=>e=Jc∧w'=W at hdc
      have UG:=h_ hdc;clear hdc hdd
      go_wp2_with (first
     |(go_at_call 68;refine(mt.out).mono ?_;rintro e w2 ⟨rfl,hb2⟩;have HB2:=h_ (HB.out.trans (hb2.mono HB.out.size));clear hb2)
     |(go_at_call 227;refine(UG.out _).mono ?_;rintro e w3 ⟨rfl,hw3⟩;subst hw3)
     |fail)
      exact⟨rfl,by rw[kC.out];rfl,HB2.out⟩
     |some d =>
      rw[hdd]at hf1 hdc;have hdr:=kW hdd;have OH:=h_ (show AU (4-(k+1)) (n*256+d) c2=R.map fun v=>v.1*65536+v.2 by rw[show 4-(k+1)=3-k by omega];exact hf1);clear hf1
      change ∀W,Calls _ _ _ W fun e w'=>e=.returned (.int .i64 d)∧w'=W at hdc
      have UG:=h_ hdc;clear hdc hdd;have a9U:IntKind.i64.wrap (n*256+d)=n*256+d:=IntWalk.i64_in _ (by omega)
      go_wp2_with (first
     |(go_at_call 68;refine(mt.out).mono ?_;rintro e w2 ⟨rfl,hb2⟩;have HB2:=h_ (HB.out.trans (hb2.mono HB.out.size));clear hb2)
     |(go_at_call 227;refine(UG.out _).mono ?_;rintro e w3 ⟨rfl,hw3⟩;subst hw3)
     |fail)
      go_roundw
      case rel=>exact⟨k+1,n*256+d,c2,by omega,by simp,by rfl,by rfl,OH.out,HL2.out,by omega,ow.out d hdr.2,HB2.out⟩
      case measure=>simp[intOf];omega
    rw[if_pos (by simp)]at hf1;have oK:R=none:=by cases R with|none=>rfl|some v=>cases hf1
    have kC:=h_ oK;clear oK hf1 hdc
    go_wp2_with (first
    |(go_at_call 68;refine(mt.out).mono ?_;rintro e w2 ⟨rfl,hb2⟩;have HB2:=h_ (HB.out.trans (hb2.mono HB.out.size));clear hb2)
    |(go_at_call 227;refine(UG.out _).mono ?_;rintro e w3 ⟨rfl,hw3⟩;subst hw3)
    |fail)
    exact⟨rfl,by rw[kC.out];rfl,HB2.out⟩
   |false =>
    rcases hk3 with hk3|rfl
    ·rw[if_pos (by simp;omega)]at hf1
     have a0A:(k:Int)<3:=by omega
     have oK:R=none:=by cases R with|none=>rfl|some v=>cases hf1
     have kC:=h_ oK;clear oK hf1 hdc
     go_wp2_with (first
     |(go_at_call 68;refine(mt.out).mono ?_;rintro e w2 ⟨rfl,hb2⟩;have HB2:=h_ (HB.out.trans (hb2.mono HB.out.size));clear hb2)
     |(go_at_call 227;refine(UG.out _).mono ?_;rintro e w3 ⟨rfl,hw3⟩;subst hw3)
     |fail)
     exact⟨rfl,by rw[kC.out];rfl,HB2.out⟩
    rw[if_neg (by simp)]at hf1;cases hdd:gV c1 with
    |none =>
     rw[hdd]at hf1 hdc;have oK:R=none:=by cases R with|none=>rfl|some v=>cases hf1
     have kC:=h_ oK;clear oK hf1
     change ∀W,Calls _ _ _ W fun e w'=>e=Jc∧w'=W at hdc
     have UG:=h_ hdc;clear hdc hdd
     go_wp2_with (first
    |(go_at_call 68;refine(mt.out).mono ?_;rintro e w2 ⟨rfl,hb2⟩;have HB2:=h_ (HB.out.trans (hb2.mono HB.out.size));clear hb2)
    |(go_at_call 227;refine(UG.out _).mono ?_;rintro e w3 ⟨rfl,hw3⟩;subst hw3)
    |fail)
     exact⟨rfl,by rw[kC.out];rfl,HB2.out⟩
    |some d =>
     rw[hdd]at hf1 hdc;have hdr:=kW hdd;have OH:=h_ (show AU (4-(3+1)) (n*256+d) c2=R.map fun v=>v.1*65536+v.2 from hf1);clear hf1
     change ∀W,Calls _ _ _ W fun e w'=>e=.returned (.int .i64 d)∧w'=W at hdc
     have UG:=h_ hdc;clear hdc hdd;have a9U:IntKind.i64.wrap (n*256+d)=n*256+d:=IntWalk.i64_in _ (by omega)
     go_wp2_with (first
    |(go_at_call 68;refine(mt.out).mono ?_;rintro e w2 ⟨rfl,hb2⟩;have HB2:=h_ (HB.out.trans (hb2.mono HB.out.size));clear hb2)
    |(go_at_call 227;refine(UG.out _).mono ?_;rintro e w3 ⟨rfl,hw3⟩;subst hw3)
    |fail)
     go_roundw
     case rel=>exact⟨3+1,n*256+d,c2,by omega,by rfl,by rfl,by rfl,OH.out,HL2.out,by omega,ow.out d hdr.2,HB2.out⟩
     case measure=>simp[intOf]
  obtain rfl:k=4:=by omega
  have hf1:=hf.out;have hf2:some n=R.map fun v=>v.1*65536+v.2:=hf1;have hn4:n<4294967296:=hn1.out;cases R with
  |none=>cases hf2
  |some v =>
   injection hf2 with hf2
   replace hf2:n=v.1*65536+v.2:=hf2;have hr:=Oe.out v rfl;obtain⟨N,rfl⟩:∃ N:Nat,n=N:=⟨n.toNat,by omega⟩;have hmk:=MW N (by omega);obtain⟨a,ha⟩:=az (v.1);obtain⟨b,hb⟩:=az (v.2);rw[<-ha,<-hb]at hr hf2;have e1:((N%65536:Nat):Int)=b:=by omega
   rw[e1]at hmk;have HV:=h_ (show v=(a,b) by rw[ha,hb]);clear ha hb hf hf1 hn1 e1;have Rh:IntKind.u16.wrap a=a:=by rw[IntKind.wrap_u16];omega
   have hwb:IntKind.u16.wrap b=b:=by rw[IntKind.wrap_u16];omega
   have hdv:(N:Int)/65536=a:=by omega
   have OH:=h_ hf2;clear hf2
   go_wp2_with fail
   go_ret2
   exact⟨by rw[HV.out];rfl,HB.out⟩

abbrev dI(l:List Int):List Value:=l.map (Value.int .u16)
theorem E7:(prog.info? 24).map (fun i=>(i.zero,i.size,i.bytes))=some (some (.int .u16 0),1,2):=by kernel_rfl
theorem YK{P:Program}{ops:Array Oper}{rest:List Oper}{o:Oper}{a:Act}{Q:Exit->Act->World->Prop}(hgd:o.guard=none)(s x:Operand)(t:TypeId)
  (ho:o.op=.call {callee:=.builtin .append,args:=#[s,x],argTypes:=#[t,t]})
  (base:Nat) (e:TypeId) (i:TypeInfo) (z:Value) (bytes:Nat) (ht:P.underlying t=some (.slice e)) (hi:P.info? e=some i) (hz:i.zero=some z)
  (hsize:i.size=1) (hby:i.bytes=bytes) (hzs:z.cells.size=1) (w:World)
  (v:Value) (n:Nat) (xs:List Value) (hs:a.eval s=v) (hown:w.ownsRow base e 1 v n xs) (u1 u2:Value) (hx:a.eval x=.slice (some ⟨w.heap.size,0,none⟩) 2 2) (h1:u1.oneCell'=true) (h2:u2.oneCell'=true)
  (h63:n+2<=1099511627776) (hbytes:bytes<=64) (hbase:base<=w.heap.size)
  (h:∀ v' w',w'.ownsRow base e 1 v' (n+2) (xs++[u1,u2])->w.heap.size<w'.heap.size->Below base w w'->wpList P ops Q rest (a.put o.dst v') w') :
  wpList P ops Q (o::rest) a (w.alloc (.cells #[u1,u2] e)):=by
 refine wpList_append_own _ hgd s x t ho base e i z 1 bytes ht hi hz hsize hby hzs (by decide) v n xs hs (hown.alloc _) ⟨w.heap.size,0,none⟩ 2 2 [u1,u2] hx rfl ?_ ?_ ?_ ?_ ?_ ?_
 ·intro j u' hj
  match j,hj with
  |0,hj=>simp at hj;subst hj;simp[Addr.add]
  |1,hj=>simp at hj;subst hj;simp[Addr.add]
 ·intro u' hu
  simp at hu;rcases hu with rfl|rfl
  ·exact h1
  exact h2
 ·unfold maxLen;omega
 ·have:(n+2)*bytes<=(n+2)*64:=p6 _ hbytes
  omega
 ·simp;omega
 intro v' w' ho' hg _;refine h v' w' ho' ?_ (((Below.refl _ _).alloc hbase _).grown hg (by simp;omega) (fun k hk=>(hown.lt k hk).1));have:=hg.size;simp at this;omega
def lc(w:World)(o:Option (List Int)):Ending->World->Prop:=fun e w'=>(match o with|some l=>∃ v,e=.returned v∧w'.ownsRow w.heap.size 24 1 v l.length (dI l)|none=>e=Jc)∧Below w.heap.size w w'
theorem lc.none{w w':World}{o:Option (List Int)}(h:o=none)(hb:Below w.heap.size w w'):lc w o Jc w':=by subst h;exact⟨rfl,hb⟩
theorem lc.some{w w':World}{o:Option (List Int)}{l:List Int}{v:Value}(h:o=some l)(hv:w'.ownsRow w.heap.size 24 1 v l.length (dI l))(hb:Below w.heap.size w w'):lc w o (.returned v) w':=by subst h;exact⟨⟨v,rfl,hv⟩,hb⟩
theorem a9Z(l:Bytes)(W:World):bV prog 81 #[.string (bs l),.int .u8 46] W (.int .i64 (Lib.indexByte l 46)):=by
 have h:=Any.strings_IndexByte laysIB (bs l) 46 W;rw[show(bs l).data.toList=l from dR l]at h;exact h
theorem Rn(l:Bytes):0<=Lib.indexByte l 46 ↔ 46∈l:=by
 rw[rR];unfold jJ;rw[kr];constructor
 ·rintro⟨x,hx,h⟩
  have:x=46:=fB (by simpa using h);exact this▸hx
 intro h;exact⟨46,h,by simp⟩
theorem Np(nums:Bool){t p r:Bytes}(h:t=p++58::r)(hp:58∉p):rowP nums (et 58 t)=match jA p with|none=>none|some n=>(rowP nums (et 58 r)).map (n::·):=by
 obtain⟨q,qs,hq⟩:=kI 58 r;rw[h,lg,gA hp,hq];rfl
theorem No(nums:Bool){t:Bytes}(h:58∉t):rowP nums (et 58 t)=endP nums t:=by
 rw[gA h];rfl
theorem eS{w:World}{base e n:Nat}{v:Value}{xs:List Value}(h:w.ownsRow base e 1 v n xs):∃ a c,v=.slice a n c:=by
 rcases h.2 with⟨rfl,rfl⟩|⟨g,cap,cur,rfl,_⟩
 ·exact⟨_,_,rfl⟩
 exact⟨_,_,rfl⟩
theorem S9{T R:Option (List Int)}(hR:R=match T with|none=>none|some l=>if 8<l.length then none else some l){a:List Int}{o:Option (List Int)}(hT:o.map (a++·)=T)(h:8<a.length):R=none:=by
 subst hT;cases o with
 |none=>exact hR
 |some l=>rw[hR];simp only[yw];rw[if_pos (by rw[ae];omega)]
theorem BD(l:Bytes)(nums:Bool)(w:World)(hl:l.length<=1024000000)(hE:Env w):Calls prog 207 #[.string (bs l),.bool nums] w (lc w (qa nums l)):=by
 obtain⟨i1,hi1,hz1,hz2,hz3⟩:=info_parts E7;obtain⟨R,hR⟩:=az (qa nums l);rw[<-hR];unfold qa at hR;by_cases hnil:l=[]
 ·rw[if_pos hnil]at hR
  obtain⟨s,hs⟩:=az (bs l);have he2:s.toList=[]:=by rw[hs,ay,hnil]
  have he:s.toList.isEmpty=true:=by rw[he2];rfl
  rw[<-hs];clear hs hnil hl hE;have HR:=h_ hR;clear hR;go_enter func207,ntmps207
  go_wp2_with fail
  go_ret;exact lc.some HR.out ⟨rfl,.inl ⟨rfl,rfl⟩⟩ (Below.refl _ _)
 rw[if_neg hnil]at hR;obtain⟨T,hT⟩:=az (rowP nums (et 58 l));rw[<-hT]at hR;obtain⟨s,hs⟩:=az (bs l);have he2:¬ s.toList=[]:=by rw[hs,ay];exact hnil
 have he:s.toList.isEmpty=false:=by simpa using he2
 rw[<-hs];have HS:=h_ hs;clear hs;have HR:=h_ hR;clear hR;have HT:=h_ hT;clear hT;have HL:=h_ hl;clear hl;have Uc:=h_ hE;clear hE;clear hnil;go_enter func207,ntmps207
 go_wp2_with fail
 go_loopw [0,5,6] (fun sv lv mv wr=>∃ (m:Bool) (t:Bytes) (a:List Int),mv=.bool m∧sv=.string (bs t)∧Hid (t.length<=l.length)∧wr.ownsRow w.heap.size 24 1 lv a.length (dI a)∧a.length<=8∧Hid ((if m then(rowP nums (et 58 t)).map (a++·)else some a)=T)∧w.heap.size<=wr.heap.size∧Below w.heap.size w wr) (fun sv _ mv _=>match mv with | .bool true=>G6 sv+1|_=>0)
 case atStart=>exact⟨true,l,[],by simp,by rw[HS.out],af _,⟨rfl,.inl ⟨rfl,rfl⟩⟩,by simp,by rw[if_pos rfl,HT.out];cases rowP nums (et 58 l) <;>rfl,af _,Below.refl _ _⟩
 case round =>
  obtain⟨m,t,a,rfl,rfl,htl,hown,Up,hinv,hwz,hb⟩:=hrel;have HO:=h_ hown;clear hown;have HB:=h_ hb;clear hb;cases m with
  |false =>
   have hT:some a=T:=hinv.out;have hRa:R=some a:=by rw[HR.out,<-hT];dsimp only;rw[if_neg (by omega)]
   have dH:=h_ hRa;clear hRa hT hinv
   go_wp2_with fail
   go_ret;exact lc.some dH.out HO.out HB.out
  |true =>
   have dt:(rowP nums (et 58 t)).map (a++·)=T:=hinv.out;have htm:t.length<=1024000000:=by have:=htl.out;have:=HL.out;omega
   have mY:=fun W (h:Below w.heap.size w W)=>jE t [58] W htm (Uc.out.below h);rw[show bs [58]=⟨#[58]⟩from rfl]at mY;obtain⟨u,hu⟩:=az (bs t);have nT:u.size=t.length:=by rw[hu,aM]
   rw[<-hu]at mY;rw[<-hu];have HUS:=h_ nT;clear nT hinv;have HU:=h_ hu;clear hu;by_cases zd:(58:UInt8)∈t
   ·obtain⟨p,r,hpr,hp,hlc⟩:=oT zd
    rw[hlc]at mY;have mt:=h_ (mY _ HB.out);clear mY hlc;rw[Np nums hpr hp]at dt;have hlr:p.length+r.length+1=t.length:=by rw[hpr];simp;omega
    have hpi:=fun W=>zA p W (by omega);have HL2:=h_ (show r.length<=l.length by have:=htl.out;omega);have HLR:=h_ hlr;clear hlr htl htm zd hpr hp;cases hpp:jA p with
    |none =>
     rw[hpp]at dt hpi;clear hpp
     change ∀W,Calls _ _ _ W fun e w'=>e=Jc∧w'=W at hpi
     have IS:=h_ hpi;clear hpi;have oK:R=none:=by rw[HR.out,<-dt];rfl
     have kC:=h_ oK;clear oK dt
     go_wp2_with (first
     |(go_at_call 68;refine(mt.out).mono ?_;rintro e w2 ⟨rfl,hb2⟩;have fg:=h_ (own_below HO.out hb2);have HB2:=h_ (HB.out.trans (hb2.mono HB.out.size));have p9:=ap hwz hb2.size;clear hb2)
     |(go_at_call 217;refine(IS.out _).mono ?_;rintro e w4 ⟨rfl,hw4⟩;subst hw4)
     |fail)
     exact⟨rfl,lc.none kC.out HB2.out⟩
    |some n =>
     rw[hpp]at dt hpi;clear hpp
     replace dt:(rowP nums (et 58 r)).map ((a++[n])++·)=T:=by
      rw[<-dt];cases rowP nums (et 58 r) <;>simp
     change ∀W,Calls _ _ _ W fun e w'=>e=.returned (.int .u16 n)∧w'=W at hpi
     have IS:=h_ hpi;clear hpi;have hao:dI a++[.int .u16 n]=dI (a++[n]):=by simp
     have Y2:=h_ hao;clear hao;obtain⟨al,hal⟩:=az (a.length);have ho:=HO.out;rw[<-hal]at ho Up;have HO:=h_ ho;clear ho;by_cases h9:al+1<=8
     ·have HI2:=h_ (show(if true=true then(rowP nums (et 58 r)).map ((a++[n])++·)else some (a++[n]))=T from dt);clear dt
      have pp:=h_ hal;clear hal
      go_wp2_with (first
      |(go_at_call 68;refine(mt.out).mono ?_;rintro e w2 ⟨rfl,hb2⟩;have fg:=h_ (own_below HO.out hb2);have HB2:=h_ (HB.out.trans (hb2.mono HB.out.size));have p9:=ap hwz hb2.size;clear hb2)
      |(go_at_call 217;refine(IS.out _).mono ?_;rintro e w4 ⟨rfl,hw4⟩;subst hw4)
      |(at_builtin;(refine eO rfl (.tmp 39) (.tmp 42) _ rfl w.heap.size 24 i1 (.int .u16 0) 2 underlying198 hi1 hz1 hz2 hz3 (by decide) _ _ _ (dI a) rfl fg.out (.int .u16 n) rfl rfl (by omega) (by decide) (by omega) ?_);intro v6 w6 hown6 GJ hb6;obtain⟨ZK,ZY,hv6⟩:=eS hown6;subst hv6;have Cs:=h_ hown6;clear hown6;have jM:=h_ (HB2.out.trans hb6);clear hb6)
      |fail)
      go_roundw
      case rel =>
       refine⟨true,r,a++[n],by rfl,by rfl,HL2.out,?_,by rw[ae,<-pp.out];exact h9,HI2.out,by omega,jM.out⟩;rw[ae,<-pp.out,<-Y2.out];exact Cs.out
      case measure=>simp[G6,aM];have:=HLR.out;have:=HUS.out;omega
     have oK:R=none:=S9 HR.out (o:=rowP nums (et 58 r)) dt (by rw[ae,<-hal];simp;omega);have kC:=h_ oK;clear oK dt hal
     go_wp2_with (first
     |(go_at_call 68;refine(mt.out).mono ?_;rintro e w2 ⟨rfl,hb2⟩;have fg:=h_ (own_below HO.out hb2);have HB2:=h_ (HB.out.trans (hb2.mono HB.out.size));have p9:=ap hwz hb2.size;clear hb2)
     |(go_at_call 217;refine(IS.out _).mono ?_;rintro e w4 ⟨rfl,hw4⟩;subst hw4)
     |(at_builtin;(refine eO rfl (.tmp 39) (.tmp 42) _ rfl w.heap.size 24 i1 (.int .u16 0) 2 underlying198 hi1 hz1 hz2 hz3 (by decide) _ _ _ (dI a) rfl fg.out (.int .u16 n) rfl rfl (by omega) (by decide) (by omega) ?_);intro v6 w6 hown6 GJ hb6;obtain⟨ZK,ZY,hv6⟩:=eS hown6;subst hv6;have Cs:=h_ hown6;clear hown6;have jM:=h_ (HB2.out.trans hb6);clear hb6)
     |fail)
     exact⟨rfl,lc.none kC.out jM.out⟩
   have hlc:=rT zd;rw[hlc]at mY;have mt:=h_ (mY _ HB.out);clear mY hlc;rw[No nums zd]at dt;clear zd;unfold endP at dt;have hpi:=fun W=>zA t W htm;have hib:=fun W=>a9Z t W;have him:=Rn t;have hfn:=fun W (h:Below w.heap.size w W)=>DG t W htm (Uc.out.below h);have HL2:=h_ (show([]:Bytes).length<=l.length from aK _);obtain⟨I,hI⟩:=az (Lib.indexByte t 46);rw[<-hI]at hib him;have Oc:=h_ hib;clear hib hI;cases nums with
   |false =>
    rw[if_neg (by simp)]at dt;clear him hfn Oc;cases hpp:jA t with
    |none =>
     rw[hpp]at dt hpi;clear hpp
     change ∀W,Calls _ _ _ W fun e w'=>e=Jc∧w'=W at hpi
     have IS:=h_ hpi;clear hpi;have oK:R=none:=by rw[HR.out,<-dt];rfl
     have kC:=h_ oK;clear oK dt
     go_wp2_with (first
          |(go_at_call 68;refine(mt.out).mono ?_;rintro e w2 ⟨rfl,hb2⟩;have fg:=h_ (own_below HO.out hb2);have HB2:=h_ (HB.out.trans (hb2.mono HB.out.size));have p9:=ap hwz hb2.size;clear hb2)
          |(go_at_call 217;refine(IS.out _).mono ?_;rintro e w4 ⟨rfl,hw4⟩;subst hw4)
          |fail)
     exact⟨rfl,lc.none kC.out HB2.out⟩
    |some n =>
     rw[hpp]at dt hpi;clear hpp
     change ∀W,Calls _ _ _ W fun e w'=>e=.returned (.int .u16 n)∧w'=W at hpi
     have IS:=h_ hpi;clear hpi;have hao:dI a++[.int .u16 n]=dI (a++[n]):=by simp
     have Y2:=h_ hao;clear hao;obtain⟨al,hal⟩:=az (a.length);have ho:=HO.out;rw[<-hal]at ho Up;have HO:=h_ ho;clear ho;replace dt:some (a++[n])=T:=dt;by_cases h9:al+1<=8
     ·have HI2:=h_ (show(if false=true then(rowP false (et 58 [])).map ((a++[n])++·)else some (a++[n]))=T from dt);clear dt
      have pp:=h_ hal;clear hal
      go_wp2_with (first
          |(go_at_call 68;refine(mt.out).mono ?_;rintro e w2 ⟨rfl,hb2⟩;have fg:=h_ (own_below HO.out hb2);have HB2:=h_ (HB.out.trans (hb2.mono HB.out.size));have p9:=ap hwz hb2.size;clear hb2)
          |(go_at_call 217;refine(IS.out _).mono ?_;rintro e w4 ⟨rfl,hw4⟩;subst hw4)
          |(at_builtin;(refine eO rfl (.tmp 39) (.tmp 42) _ rfl w.heap.size 24 i1 (.int .u16 0) 2 underlying198 hi1 hz1 hz2 hz3 (by decide) _ _ _ (dI a) rfl fg.out (.int .u16 n) rfl rfl (by omega) (by decide) (by omega) ?_);intro v6 w6 hown6 GJ hb6;obtain⟨ZK,ZY,hv6⟩:=eS hown6;subst hv6;have Cs:=h_ hown6;clear hown6;have jM:=h_ (HB2.out.trans hb6);clear hb6)
          |fail)
      go_roundw
      case rel =>
       refine⟨false,[],a++[n],by rfl,by rfl,HL2.out,?_,by rw[ae,<-pp.out];exact h9,HI2.out,by omega,jM.out⟩;rw[ae,<-pp.out,<-Y2.out];exact Cs.out
      case measure=>simp
     have oK:R=none:=by rw[HR.out,<-dt];dsimp only;rw[if_pos (by rw[ae,<-hal];simp;omega)]
     have kC:=h_ oK;clear oK dt hal
     go_wp2_with (first
         |(go_at_call 68;refine(mt.out).mono ?_;rintro e w2 ⟨rfl,hb2⟩;have fg:=h_ (own_below HO.out hb2);have HB2:=h_ (HB.out.trans (hb2.mono HB.out.size));have p9:=ap hwz hb2.size;clear hb2)
         |(go_at_call 217;refine(IS.out _).mono ?_;rintro e w4 ⟨rfl,hw4⟩;subst hw4)
         |(at_builtin;(refine eO rfl (.tmp 39) (.tmp 42) _ rfl w.heap.size 24 i1 (.int .u16 0) 2 underlying198 hi1 hz1 hz2 hz3 (by decide) _ _ _ (dI a) rfl fg.out (.int .u16 n) rfl rfl (by omega) (by decide) (by omega) ?_);intro v6 w6 hown6 GJ hb6;obtain⟨ZK,ZY,hv6⟩:=eS hown6;subst hv6;have Cs:=h_ hown6;clear hown6;have jM:=h_ (HB2.out.trans hb6);clear hb6)
         |fail)
     exact⟨rfl,lc.none kC.out jM.out⟩
   |true =>
    by_cases h46:(46:UInt8)∈t
    ·rw[if_pos ⟨rfl,h46⟩]at dt
     have hI0:0<=I:=him.mpr h46;clear him h46 hpi;cases GC:fnF t with
     |none =>
      rw[GC]at dt hfn;clear GC
      change ∀W,Below w.heap.size w W->Calls _ _ _ W fun e w'=>e=Jc∧Below W.heap.size W w' at hfn
      have HFN:=h_ hfn;clear hfn;have oK:R=none:=by rw[HR.out,<-dt];rfl
      have kC:=h_ oK;clear oK dt
      go_wp2_with (first
           |(go_at_call 68;refine(mt.out).mono ?_;rintro e w2 ⟨rfl,hb2⟩;have fg:=h_ (own_below HO.out hb2);have HB2:=h_ (HB.out.trans (hb2.mono HB.out.size));have p9:=ap hwz hb2.size;clear hb2)
           |(go_at_call 81;refine(Oc.out _).mono ?_;rintro e w3 ⟨rfl,hw3⟩;subst hw3)
           |(go_at_call 216;refine(HFN.out _ HB2.out).mono ?_;rintro e w5 ⟨rfl,hb5⟩;have yk:=h_ (own_below fg.out hb5);have gH:=h_ (HB2.out.trans (hb5.mono HB2.out.size));have a5f:=ap p9 hb5.size;clear hb5)
           |fail)
      exact⟨rfl,lc.none kC.out gH.out⟩
     |some v =>
      rw[GC]at dt hfn;clear GC;obtain⟨v1,v2⟩:=v
      change ∀W,Below w.heap.size w W->Calls _ _ _ W fun e w'=>e=.returned (.tuple #[.int .u16 v1,.int .u16 v2])∧Below W.heap.size W w' at hfn
      have HFN:=h_ hfn;clear hfn;have hao:dI a++[.int .u16 v1,.int .u16 v2]=dI (a++[v1,v2]):=by simp
      have Y2:=h_ hao;clear hao;obtain⟨al,hal⟩:=az (a.length);have ho:=HO.out;rw[<-hal]at ho Up;have HO:=h_ ho;clear ho;replace dt:some (a++[v1,v2])=T:=dt;by_cases h9:al+2<=8
      ·have HI2:=h_ (show(if false=true then(rowP true (et 58 [])).map ((a++[v1,v2])++·)else some (a++[v1,v2]))=T from dt);clear dt
       have pp:=h_ hal;clear hal
       go_wp2_with (first
           |(go_at_call 68;refine(mt.out).mono ?_;rintro e w2 ⟨rfl,hb2⟩;have fg:=h_ (own_below HO.out hb2);have HB2:=h_ (HB.out.trans (hb2.mono HB.out.size));have p9:=ap hwz hb2.size;clear hb2)
           |(go_at_call 81;refine(Oc.out _).mono ?_;rintro e w3 ⟨rfl,hw3⟩;subst hw3)
           |(go_at_call 216;refine(HFN.out _ HB2.out).mono ?_;rintro e w5 ⟨rfl,hb5⟩;have yk:=h_ (own_below fg.out hb5);have gH:=h_ (HB2.out.trans (hb5.mono HB2.out.size));have a5f:=ap p9 hb5.size;clear hb5)
           |(at_builtin;(refine YK rfl (.tmp 34) (.tmp 37) _ rfl w.heap.size 24 i1 (.int .u16 0) 2 underlying198 hi1 hz1 hz2 hz3 (by decide) _ _ _ (dI a) rfl yk.out (.int .u16 v1) (.int .u16 v2) rfl rfl rfl (by omega) (by decide) (by omega) ?_);intro v6 w6 hown6 GJ hb6;obtain⟨ZK,ZY,hv6⟩:=eS hown6;subst hv6;have Cs:=h_ hown6;clear hown6;have jM:=h_ (gH.out.trans hb6);clear hb6)
           |fail)
       go_roundw
       case rel =>
        refine⟨false,[],a++[v1,v2],by rfl,by rfl,HL2.out,?_,by rw[ae,<-pp.out];exact h9,HI2.out,by omega,jM.out⟩;rw[ae,<-pp.out,<-Y2.out];exact Cs.out
       case measure=>simp
      have oK:R=none:=by rw[HR.out,<-dt];dsimp only;rw[if_pos (by rw[ae,<-hal];simp;omega)]
      have kC:=h_ oK;clear oK dt hal
      go_wp2_with (first
          |(go_at_call 68;refine(mt.out).mono ?_;rintro e w2 ⟨rfl,hb2⟩;have fg:=h_ (own_below HO.out hb2);have HB2:=h_ (HB.out.trans (hb2.mono HB.out.size));have p9:=ap hwz hb2.size;clear hb2)
          |(go_at_call 81;refine(Oc.out _).mono ?_;rintro e w3 ⟨rfl,hw3⟩;subst hw3)
          |(go_at_call 216;refine(HFN.out _ HB2.out).mono ?_;rintro e w5 ⟨rfl,hb5⟩;have yk:=h_ (own_below fg.out hb5);have gH:=h_ (HB2.out.trans (hb5.mono HB2.out.size));have a5f:=ap p9 hb5.size;clear hb5)
          |(at_builtin;(refine YK rfl (.tmp 34) (.tmp 37) _ rfl w.heap.size 24 i1 (.int .u16 0) 2 underlying198 hi1 hz1 hz2 hz3 (by decide) _ _ _ (dI a) rfl yk.out (.int .u16 v1) (.int .u16 v2) rfl rfl rfl (by omega) (by decide) (by omega) ?_);intro v6 w6 hown6 GJ hb6;obtain⟨ZK,ZY,hv6⟩:=eS hown6;subst hv6;have Cs:=h_ hown6;clear hown6;have jM:=h_ (gH.out.trans hb6);clear hb6)
          |fail)
      exact⟨rfl,lc.none kC.out jM.out⟩
    rw[if_neg (fun a=>h46 a.2)]at dt;have hI0:I<0:=Int.not_le.mp (fun h=>h46 (him.mp h));clear him hfn;cases hpp:jA t with
    |none =>
     rw[hpp]at dt hpi;clear hpp
     change ∀W,Calls _ _ _ W fun e w'=>e=Jc∧w'=W at hpi
     have IS:=h_ hpi;clear hpi;have oK:R=none:=by rw[HR.out,<-dt];rfl
     have kC:=h_ oK;clear oK dt
     go_wp2_with (first
          |(go_at_call 68;refine(mt.out).mono ?_;rintro e w2 ⟨rfl,hb2⟩;have fg:=h_ (own_below HO.out hb2);have HB2:=h_ (HB.out.trans (hb2.mono HB.out.size));have p9:=ap hwz hb2.size;clear hb2)
          |(go_at_call 81;refine(Oc.out _).mono ?_;rintro e w3 ⟨rfl,hw3⟩;subst hw3)
          |(go_at_call 217;refine(IS.out _).mono ?_;rintro e w4 ⟨rfl,hw4⟩;subst hw4)
          |fail)
     exact⟨rfl,lc.none kC.out HB2.out⟩
    |some n =>
     rw[hpp]at dt hpi;clear hpp
     change ∀W,Calls _ _ _ W fun e w'=>e=.returned (.int .u16 n)∧w'=W at hpi
     have IS:=h_ hpi;clear hpi;have hao:dI a++[.int .u16 n]=dI (a++[n]):=by simp
     have Y2:=h_ hao;clear hao;obtain⟨al,hal⟩:=az (a.length);have ho:=HO.out;rw[<-hal]at ho Up;have HO:=h_ ho;clear ho;replace dt:some (a++[n])=T:=dt;by_cases h9:al+1<=8
     ·have HI2:=h_ (show(if false=true then(rowP true (et 58 [])).map ((a++[n])++·)else some (a++[n]))=T from dt);clear dt
      have pp:=h_ hal;clear hal
      go_wp2_with (first
          |(go_at_call 68;refine(mt.out).mono ?_;rintro e w2 ⟨rfl,hb2⟩;have fg:=h_ (own_below HO.out hb2);have HB2:=h_ (HB.out.trans (hb2.mono HB.out.size));have p9:=ap hwz hb2.size;clear hb2)
          |(go_at_call 81;refine(Oc.out _).mono ?_;rintro e w3 ⟨rfl,hw3⟩;subst hw3)
          |(go_at_call 217;refine(IS.out _).mono ?_;rintro e w4 ⟨rfl,hw4⟩;subst hw4)
          |(at_builtin;(refine eO rfl (.tmp 39) (.tmp 42) _ rfl w.heap.size 24 i1 (.int .u16 0) 2 underlying198 hi1 hz1 hz2 hz3 (by decide) _ _ _ (dI a) rfl fg.out (.int .u16 n) rfl rfl (by omega) (by decide) (by omega) ?_);intro v6 w6 hown6 GJ hb6;obtain⟨ZK,ZY,hv6⟩:=eS hown6;subst hv6;have Cs:=h_ hown6;clear hown6;have jM:=h_ (HB2.out.trans hb6);clear hb6)
          |fail)
      go_roundw
      case rel =>
       refine⟨false,[],a++[n],by rfl,by rfl,HL2.out,?_,by rw[ae,<-pp.out];exact h9,HI2.out,by omega,jM.out⟩;rw[ae,<-pp.out,<-Y2.out];exact Cs.out
      case measure=>simp
     have oK:R=none:=by rw[HR.out,<-dt];dsimp only;rw[if_pos (by rw[ae,<-hal];simp;omega)]
     have kC:=h_ oK;clear oK dt hal
     go_wp2_with (first
         |(go_at_call 68;refine(mt.out).mono ?_;rintro e w2 ⟨rfl,hb2⟩;have fg:=h_ (own_below HO.out hb2);have HB2:=h_ (HB.out.trans (hb2.mono HB.out.size));have p9:=ap hwz hb2.size;clear hb2)
         |(go_at_call 81;refine(Oc.out _).mono ?_;rintro e w3 ⟨rfl,hw3⟩;subst hw3)
         |(go_at_call 217;refine(IS.out _).mono ?_;rintro e w4 ⟨rfl,hw4⟩;subst hw4)
         |(at_builtin;(refine eO rfl (.tmp 39) (.tmp 42) _ rfl w.heap.size 24 i1 (.int .u16 0) 2 underlying198 hi1 hz1 hz2 hz3 (by decide) _ _ _ (dI a) rfl fg.out (.int .u16 n) rfl rfl (by omega) (by decide) (by omega) ?_);intro v6 w6 hown6 GJ hb6;obtain⟨ZK,ZY,hv6⟩:=eS hown6;subst hv6;have Cs:=h_ hown6;clear hown6;have jM:=h_ (HB2.out.trans hb6);clear hb6)
         |fail)
     exact⟨rfl,lc.none kC.out jM.out⟩

theorem at1(w:World)(a:Value)(e:TypeId):At (w.alloc (.cells #[a] e)) w.heap.size 0 [a]:=by
 intro j hj;rw[bC,World.cell?_alloc_mark]
 match j,hj with
 |0,_=>rfl
end Go.Proofs.YtmndlfglgcioeaaGreatDoor
