import Derived.Test.YtagfilhbpnjhkaaGreatDoorFGFouA
import Derived.Test.YtagfilhbpnjhkaaGreatDoorFGPctE
set_option maxRecDepth 10000
set_option maxHeartbeats 0
namespace Go.Proofs.Q
open Tryz Go.RowKit
def qK(b:Int):Int->O->Option Int
 |n,[]=>some n
 |n,c::t=>if fg (G c) b<0 then none else qK b (n*b+fg (G c) b) t
def jE(s:O):Option Int:=if s=[]\/4<s.length then none else qK 16 0 s
def gd(s:O):Option Int :=
 if s=[]\/3<s.length\/(1<s.length/\s.head? = some 48)then none
 else match qK 10 0 s with|none=>none|some n=>if 255<n then none else some n
def fnL:List O->Option (Int×Int)
 | [p,q,r,t]=>match gd p with|none=>none|some a=>match gd q with|none=>none|some b=>match gd r with|none=>none|some c=>match gd t with|none=>none|some d=>some (256*a+b,256*c+d)
 |_=>none
def fnF(s:O):Option (Int×Int):=fnL (ic 46 s)
def endP(nums:Bool)(t:O):Option (List Int):=if nums=true/\46∈t then(fnF t).map (λv=>[v.1,v.2])else(jE t).map (λn=>[n])
def rowP(nums:Bool):List O->Option (List Int)
 | []=>some []
 | [t]=>endP nums t
 |t::q::r=>match jE t with|none=>none|some n=>(rowP nums (q::r)).map (n::·)
def rm(nums:Bool)(s:O):Option (List Int) :=
 if s=[]then some []else match rowP nums (ic 58 s)with|none=>none|some l=>if 8<l.length then none else some l
def xE:O->Option (O×O)
 |x::y::r=>if x=58/\y=58 then some ([],r)else(xE (y::r)).map λv=>(x::v.1,v.2)
 |_=>none
def pK(s:O):Option (List Int) :=
 match xE s with
 |none=>match rm true s with|none=>none|some l=>if l.length=8 then some l else none
 |some (a,b)=>match rm false a,rm true b with
  |some l,some r=>if 8<=l.length+r.length then none else some (l++List.replicate (8-l.length-r.length) 0++r)
  |_,_=>none
theorem pS(b:Int)(U:1<=b)(hd:∀c,fg c b<b):∀(l:O) (n v:Int) (m:Nat),0<=n->n<b ^ m->qK b n l=some v->0<=v/\v<b ^ (m+l.length)
 | [],n,v,m,h,I,e=>by unfold qK at e;injection e with e;subst e;exact⟨h,by simpa using I⟩
 |c::t,n,v,m,h,I,e=>by
  unfold qK at e
  split at e
  ·cases e
  next hc =>
  have h3:=eh h (show 0<=b by omega);have a:(n+1)*b<=b ^ m*b:=eK M0 M0;rw[b5r,Int.one_mul]at a;have h5:=hd (G c);have:=pS b U hd t _ v (m+1) M0 (by rw[lq];omega) e;rw[show m+1+t.length=m+(c::t).length by simp;omega]at this;exact this
theorem a1g(c:Int):fg c 10<10:=by unfold fg;simp only;split <;>omega
theorem tD{t:O}{n:Int}(h:jE t=some n):0<=n/\n<65536:=by
 unfold jE at h
 split at h
 ·cases h
 next c =>
 have:=pS 16 M0 zX t 0 n 0 M0 P8 h;refine⟨this.1,?_⟩
 have a:t.length=1\/t.length=2\/t.length=3\/t.length=4:=by
  have:t.length≠0:=λe=>c (.inl (az e));omega
 have I:=this.2;rcases a with e|e|e|e <;>rw[e]at I <;>simp at I <;>omega
theorem kg{t:O}{n:Int}(h:gd t=some n):0<=n/\n<256:=by
 unfold gd at h
 split at h
 ·cases h
 cases hd:qK 10 0 t with
 |none=>rw[hd]at h;cases h
 |some v =>
  rw[hd]at h;dsimp only at h
  split at h
  ·cases h
  injection h with h
  have:=pS 10 M0 a1g t 0 v 0 M0 P8 hd;omega
theorem yt{l:List O}{v:Int×Int}(h:fnL l=some v):(0<=v.1/\v.1<65536)/\(0<=v.2/\v.2<65536):=by
 unfold fnL at h
 split at h
 ·next p q r t =>
  cases e:gd p with
  |none=>rw[e]at h;cases h
  |some a =>
   cases U:gd q with
   |none=>rw[e,U]at h;cases h
   |some b =>
    cases f:gd r with
    |none=>rw[e,U,f]at h;cases h
    |some c =>
     cases hd:gd t with
     |none=>rw[e,U,f,hd]at h;cases h
     |some d =>
      rw[e,U,f,hd]at h;injection h with h
      subst h;have:=kg e;have:=kg U;have:=kg f;have:=kg hd;constructor <;>dsimp only <;>omega
 cases h
theorem FA{nums:Bool}{t:O}{l:List Int}(h:endP nums t=some l):(∀n∈l,0<=n/\n<65536)/\l.length<=2:=by
 unfold endP at h
 split at h
 ·obtain⟨v,a,rfl⟩:=cY.mp h
  have:=yt a;exact⟨by simp;omega,Oc⟩
 obtain⟨v,a,rfl⟩:=cY.mp h;have:=tD a;exact⟨by simp;omega,Oc⟩
theorem wE(nums:Bool):∀(c:List O) (l:List Int),rowP nums c=some l->∀n∈l,0<=n/\n<65536
 | [],l,h=>by unfold rowP at h;injection h with h;subst h;simp
 | [t],l,h=>by unfold rowP at h;exact(FA h).1
 |t::q::r,l,h=>by
  unfold rowP at h;cases hp:jE t with
  |none=>rw[hp]at h;cases h
  |some n =>
   rw[hp]at h;obtain⟨v,a,rfl⟩:=cY.mp h;intro x X;rcases aK.mp X with rfl|X
   ·exact tD hp
   exact wE nums (q::r) v a x X
theorem jf{nums:Bool}{s:O}{l:List Int}(h:rm nums s=some l):(∀n∈l,0<=n/\n<65536)/\l.length<=8:=by
 unfold rm at h
 split at h
 ·injection h with h;subst h;simp
 cases a:rowP nums (ic 58 s)with
 |none=>rw[a]at h;cases h
 |some v =>
  rw[a]at h;dsimp only at h
  split at h
  ·cases h
  injection h with h;subst h
  exact⟨wE _ _ _ a,M0⟩
theorem mT{s:O}{l:List Int}(h:pK s=some l):l.length=8/\∀n∈l,0<=n/\n<65536:=by
 unfold pK at h
 split at h
 ·cases d:rm true s with
  |none=>rw[d]at h;cases h
  |some v =>
   rw[d]at h;dsimp only at h
   split at h
   ·next e=>injection h with h;subst h;exact⟨e,(jf d).1⟩
   cases h
 next a b hc =>
 split at h
 ·next l' r' f d =>
  split at h
  ·cases h
  next e =>
  injection h with h;subst h
  have Y:=jf f;have I:=jf d;refine⟨by simp;omega,λn c=>?_⟩;rcases bO.mp c with c|c
  ·rcases bO.mp c with c|c
   ·exact Y.1 n c
   have:=List.eq_of_mem_replicate c;omega
  exact I.1 n c
 cases h
/- What is written is read. -/
theorem a7I(k:Fin 16):fg (G (vE k.val)) 16=k.val:=by revert k;decide +kernel
theorem a6J(b n:Int)(c:UInt8)(t:O):qK b n (c::t)=if fg (G c) b<0 then none else qK b (n*b+fg (G c) b) t:=rfl
theorem a7y(b:Int):∀(l m:O) (n:Int),qK b n (l++m)=(qK b n l).bind λv=>qK b v m
 | [],m,n=>rfl
 |c::t,m,n=>by
  rw[dE,a6J,a6J]
  split
  ·rfl
  rw[a7y b t m]
theorem b1x(u:Nat):qK 16 0 (gg u)=some (u:Int):=by
 induction u using Nat.strongRecOn with
 |ind u a =>
  by_cases h:u<16
  ·rw[b6U h]
   have:=a7I ⟨u,h⟩;dsimp only at this;unfold qK;rw[this,gc M0];unfold qK;simp
  rw[IQ h,a7y,a (u/16) M0];have:=a7I ⟨u%16,M0⟩;dsimp only at this;show qK 16 _ _=_;unfold qK;rw[this,gc M0];unfold qK
  congr 1
  omega
theorem a9H(k:Fin 16):vE k.val≠58/\vE k.val≠46:=by revert k;decide +kernel
theorem a8T(u:Nat):58∉gg u/\46∉gg u:=by
 induction u using Nat.strongRecOn with
 |ind u a =>
  by_cases h:u<16
  ·rw[b6U h]
   have:=a9H ⟨u,h⟩;dsimp only at this;exact⟨by simpa using this.1.symm,by simpa using this.2.symm⟩
  rw[IQ h];have Y:=a (u/16) M0;have:=a9H ⟨u%16,M0⟩;dsimp only at this;exact⟨by simpa using⟨Y.1,this.1.symm⟩,by simpa using⟨Y.2,this.2.symm⟩⟩
theorem a6U{u:Nat}(h:u<65536):jE (gg u)=some (u:Int):=by
 unfold jE;rw[gc]
 ·exact b1x u
 rintro(e|e)
 ·exact a8S u e
 have:=qT 3 u M0;omega
def a3T:List O->O
 | []=>[]
 | [p]=>p
 |p::q::r=>p++58::a3T (q::r)
theorem a9d:∀a:List O,a ≠ []->(∀p∈a,58∉p)->ic 58 (a3T a)=a
 | [],h,_=>absurd rfl h
 | [p],_,h=>oL (h p Oc)
 |p::q::r,_,h=>by
  rw[a3T,uY,oL (h p Oc),a9d (q::r) Oc (λx X=>h x (cN _ X))];rfl
theorem a70(nums:Bool):∀l:List Int,(∀n∈l,0<=n/\n<65536)->rowP nums (l.map λn=>gg n.toNat)=some l
 | [],_=>rfl
 | [n],h=>by
  have d:=h n Oc;show endP nums (gg n.toNat)=_;unfold endP;rw[gc (λa=>(a8T n.toNat).2 a.2),a6U M0];simp;omega
 |n::m::r,h=>by
  have d:=h n Oc;have c:=a70 nums (m::r) (λx X=>h x (cN _ X));simp only[dh]at c⊢;unfold rowP;rw[a6U M0,c];simp;omega
theorem a6w(nums:Bool)(l:List Int)(h:∀n∈l,0<=n/\n<65536)(h8:l.length<=8):rm nums (a3T (l.map λn=>gg n.toNat))=some l:=by
 unfold rm;cases l with
 |nil=>rfl
 |cons n r =>
  rw[gc,a9d _ Oc (by
   intro p hp;obtain⟨m,_,rfl⟩:=dt.mp hp;exact(a8T _).1),a70 nums _ h]
  ·dsimp only
   rw[gc M0]
  intro e;cases r with
  |nil=>exact a8S _ e
  |cons m r=>simp[a3T]at e
theorem b2I:∀g:List O,(∀p∈g,p ≠ []/\58∉p)->xE (a3T g)=none:=by
 have hp:∀p:O,58∉p->xE p=none:=by
  intro p
  induction p with
  |nil=>intro _;rfl
  |cons x r d =>
   intro h;have X:x≠58:=λe=>h (by simp[e]);cases r with
   |nil=>rfl
   |cons y r=>unfold xE;rw[gc (λa=>X a.1),d (λa=>h (cN _ a))];rfl
 have j:∀(p t:O),58∉p->p ≠ []->(t=[]\/∃y r,t=58::y::r/\y≠58/\xE (y::r)=none)->xE (p++t)=none:=by
  intro p t
  induction p with
  |nil=>intro _ h;exact absurd rfl h
  |cons x r d =>
   intro h _ k;rcases k with rfl|⟨y,l,rfl,hy,i⟩
   ·rw[aV];exact hp _ h
   have X:x≠58:=λe=>h (by simp[e]);cases r with
   |nil =>
    rw[dE,f9];unfold xE;rw[gc (λa=>X a.1)];unfold xE;rw[gc (λa=>hy a.2),i];rfl
   |cons z r =>
    have:=d (λa=>h (cN _ a)) Oc (.inr ⟨y,l,rfl,hy,i⟩);rw[dE,dE]at *;unfold xE;rw[gc (λa=>X a.1),this];rfl
 intro g
 induction g with
 |nil=>intro _;rfl
 |cons p r d =>
  intro h;cases r with
  |nil=>exact hp _ (h p Oc).2
  |cons q r =>
   have f:=d (λx X=>h x (cN _ X));have c:=h q Oc
   obtain⟨y,t,e⟩:∃y t,a3T (q::r)=y::t/\y≠58:=by
    cases q with
    |nil=>exact absurd rfl c.1
    |cons y q =>
     have hy:y≠58:=λe=>c.2 (by simp[e]);cases r with
     |nil=>exact⟨y,q,rfl,hy⟩
     |cons m n=>exact⟨y,q++58::a3T (m::n),by simp[a3T],hy⟩
   have Y:=h p Oc;rw[a3T,e.1];rw[e.1]at f;exact j p _ Y.2 Y.1 (.inr ⟨y,t,rfl,e.2,f⟩)
theorem b09:∀g:List O,(∀p∈g,p ≠ []/\58∉p)->∀t,xE (a3T g++58::58::t)=some (a3T g,t):=by
 have hp:∀(p t a b:O),58∉p->(∃y r,t=y::r)->xE t=some (a,b)->(p=[]\/∃y r,p=y::r)->xE (p++t)=some (p++a,b):=by
  intro p t a b
  induction p with
  |nil=>intro _ _ h _;exact h
  |cons x r i =>
   intro h l k _;have X:x≠58:=λe=>h (by simp[e]);have:=i (λa=>h (by simp[a])) l k (by cases r with|nil=>exact .inl rfl|cons y r=>exact .inr ⟨y,r,rfl⟩);cases r with
   |nil =>
    obtain⟨y,j,rfl⟩:=l;rw[dE,f9];unfold xE;rw[gc (λa=>X a.1),k];rfl
   |cons z r =>
    rw[dE,dE]at *;unfold xE;rw[gc (λa=>X a.1),this];rfl
 intro g
 induction g with
 |nil=>intro _ t;show xE (58::58::t)=_;unfold xE;rw[ge ⟨rfl,rfl⟩];rfl
 |cons p r i =>
  intro h t;have Y:=h p Oc;have c:p=[]\/∃y r,p=y::r:=by cases p with|nil=>exact .inl rfl|cons y r=>exact .inr ⟨y,r,rfl⟩
  cases r with
  |nil =>
   have:=hp p (58::58::t) [] t Y.2 ⟨_,_,rfl⟩ (by unfold xE;rw[ge ⟨rfl,rfl⟩]) c;rw[aV]at this;exact this
  |cons q r =>
   have f:=i (λx X=>h x (cN _ X)) t;have d:=h q Oc
   obtain⟨y,j,e⟩:∃y j,a3T (q::r)=y::j/\y≠58:=by
    cases q with
    |nil=>exact absurd rfl d.1
    |cons y q =>
     have hy:y≠58:=λe=>d.2 (by simp[e]);cases r with
     |nil=>exact⟨y,q,rfl,hy⟩
     |cons n o=>exact⟨y,q++58::a3T (n::o),by simp[a3T],hy⟩
   have m:xE (58::(a3T (q::r)++58::58::t))=some (58::a3T (q::r),t):=by
    rw[e.1]at f⊢;rw[dE]at *;unfold xE;rw[gc (λa=>e.2 a.2),f];rfl
   have:=hp p (58::(a3T (q::r)++58::58::t)) (58::a3T (q::r)) t Y.2 ⟨_,_,rfl⟩ m c;rw[a3T,bB];exact this
def a77:Nat->Nat->List Nat
 |0,_=>[]
 |1,lo=>[lo]
 |n+2,lo=>lo::100::a77 (n+1) (lo+1)
theorem b17:∀z∈a25,(if(sA z).1<(sA z).2 then iR (sA z).1 (sA z).2 9 0=a77 (sA z).1 0++101::a77 (8-(sA z).2) (sA z).2/\(∀i∈List.range 8,(sA z).1<=i->i<(sA z).2->z.getD i false=true)else iR (sA z).1 (sA z).2 9 0=a77 8 0):=by decide +kernel
theorem a51(a:List Int):∀(n lo:Nat),lo+n<=8->lo+n<=a.length->iU a (a77 n lo)=a3T (((a.drop lo).take n).map λx=>gg x.toNat)
 |0,lo,_,_=>rfl
 |1,lo,h,I=>by
  rw[aC M0];show rj a lo++[]=gg _;unfold rj;rw[gc M0,gc M0,aV,jj,aG (show lo<a.length by omega)];rfl
 |n+2,lo,h,I=>by
  have c:=a51 a (n+1) (lo+1) M0 M0;rw[aC (show lo+1<a.length by omega)]at c;rw[aC (show lo<a.length by omega),aC (show lo+1<a.length by omega)];simp only[dM,dh]at c⊢;rw[a3T,<-c];show rj a lo++(rj a 100++iU a (a77 (n+1) (lo+1)))=_;have d:rj a 100=[58]:=by unfold rj;rw[ge rfl]
  have e:rj a lo=gg (a[lo]' M0).toNat:=by
   unfold rj;rw[gc M0,gc M0,jj,aG (show lo<a.length by omega)];rfl
  rw[d,e];rfl
theorem b11(a:List Int)(g:a.length=8)(h:∀n∈a,0<=n/\n<65536):pK (uc a)=some a:=by
 have c:=b17 (rJ a) (vU _ (by rw[uG,g]));have d:=xa (rJ a) (vU _ (by rw[uG,g]))
 have f:∀(l:List Int) (p:O),p∈l.map (λx=>gg x.toNat)->p ≠ []/\58∉p:=by
  intro l p hp;obtain⟨m,_,rfl⟩:=dt.mp hp;exact⟨a8S _,(a8T _).1⟩
 unfold uc;obtain⟨b,U,e,he⟩:=ac ((sA (rJ a)).1) ((sA (rJ a)).2);rw[<-U,<-he]at c d⊢
 split at c
 ·next hbe =>
  obtain⟨c,q⟩:=c;have he8:e<=8:=d.2.2.1;rw[c]
  have o:iU a (a77 b 0++101::a77 (8-e) e)=a3T ((a.take b).map λx=>gg x.toNat)++58::58::a3T ((a.drop e).map λx=>gg x.toNat):=by
   have Y:=a51 a b 0 M0 M0;have I:=a51 a (8-e) e M0 M0;rw[dP]at Y;rw[aP (by rw[aj];omega)]at I;unfold iU at *;rw[dL,cM,Y,I];rfl
  rw[o];unfold pK;rw[b09 _ (f _)];dsimp only;rw[a6w false _ (λn k=>h n (Bj k)) (by rw[aD];omega),a6w true _ (λn k=>h n (c4o k)) (by rw[aj];omega)];dsimp only;rw[gc (by rw[aD,aj];omega)]
  congr 1
  rw[aD,aj]
  apply List.ext_getElem
  ·simp;omega
  intro i Y I;rw[a8o]
  split
  ·next hi =>
   rw[a8o]
   split
   ·simp
   next j =>
   rw[c0L];simp at hi j;have:=q i (by simp;omega) M0 M0;unfold rJ at this;rw[jj,eW,aG (show i<a.length by omega)]at this;exact(of_decide_eq_true this).symm
  next hi =>
  rw[M7]
  congr 1
  simp at hi⊢;omega
 rw[c];have Y:=a51 a 8 0 M0 M0;rw[dP,aP M0]at Y;rw[Y];unfold pK;rw[b2I _ (f _)];dsimp only;rw[a6w true _ h M0];dsimp only;rw[ge g]

theorem lN(b:UInt8)(l m:O):Lib.cut (b::l) m=if m.isPrefixOf (b::l)then([],(b::l).drop m.length,true)else if(Lib.cut l m).2.2=true then(b::(Lib.cut l m).1,(Lib.cut l m).2.1,true)else(b::l,[],false):=by
 have hge:=Lib.index_ge l m
 have e:Lib.index (b::l) m=if m.isPrefixOf (b::l)=true then 0 else if Lib.index l m=-1 then -1 else Lib.index l m+1:=by
  rw[Lib.index];simp only[beq_iff_eq]
 by_cases h:m.isPrefixOf (b::l)=true
 ·rw[ge h]at e⊢
  unfold Lib.cut;rw[e];simp
 rw[gc h]at e⊢;by_cases Y:Lib.index l m=-1
 ·rw[ge Y]at e
  have a:Lib.cut l m=(l,[],false):=by unfold Lib.cut;rw[Y];rfl
  have c:Lib.cut (b::l) m=(b::l,[],false):=by unfold Lib.cut;rw[e];rfl
  rw[a,c];rfl
 rw[gc Y]at e;have a:Lib.cut l m=(l.take (Lib.index l m).toNat,l.drop ((Lib.index l m).toNat+m.length),true):=by unfold Lib.cut;rw[ge M0]
 have c:Lib.cut (b::l) m=((b::l).take (Lib.index l m+1).toNat,(b::l).drop ((Lib.index l m+1).toNat+m.length),true):=by unfold Lib.cut;rw[e,ge M0]
 have d:(Lib.index l m+1).toNat=(Lib.index l m).toNat+1:=M0;rw[a,c,d,dM,Nat.add_right_comm,Ej];rfl
theorem Ox(x y:UInt8)(r:O):xE (x::y::r)=if x=58/\y=58 then some ([],r)else(xE (y::r)).map λv=>(x::v.1,v.2):=rfl
theorem b68{c:UInt8}:∀{s:O},c∉s->Lib.cut s [c]=(s,[],false)
 | [],_=>rfl
 |b::l,h=>by
  have U:¬b=c:=λe=>h (by simp[e]);rw[lN,b68 (λa=>h (cN _ a)),gc (by simp[List.isPrefixOf];exact λe=>U e.symm),gc Oc]
theorem ou{c:UInt8}:∀{s:O},c∈s->∃p r,s=p++c::r/\c∉p/\Lib.cut s [c]=(p,r,true)
 | [],h=>absurd h Oc
 |b::l,h=>by
  by_cases U:b=c
  ·subst U
   exact⟨[],l,rfl,Oc,by rw[lN,ge (by simp[List.isPrefixOf])];rfl⟩
  obtain⟨p,r,Y,I,a⟩:=ou (s:=l) (by
   rcases aK.mp h with e|e
   ·exact absurd e.symm U
   exact e)
  refine⟨b::p,r,by rw[Y];rfl,?_,?_⟩
  ·intro e
   rcases aK.mp e with e|e
   ·exact U e.symm
   exact I e
  rw[lN,a,gc (by simp[List.isPrefixOf];exact λe=>U e.symm),ge rfl]
theorem vQ:∀s:O,Lib.cut s [58,58]=match xE s with|none=>(s,[],false)|some v=>(v.1,v.2,true)
 | []=>rfl
 | [x]=>by
  rw[lN,gc (by simp[List.isPrefixOf])];rfl
 |x::y::r=>by
  have c:=vQ (y::r);rw[lN,c,Ox];by_cases h:x=58/\y=58
  ·obtain⟨rfl,rfl⟩:=h
   rw[ge (by simp[List.isPrefixOf]),ge ⟨rfl,rfl⟩];rfl
  rw[gc h,gc]
  ·cases xE (y::r) <;>simp
  simp[List.isPrefixOf];exact λa b=>h ⟨a.symm,b.symm⟩
theorem gK(l m:O)(w:H)(hl:l.length<=1024000000)(a:Env w):bF prog 72 #[.string (E l),.string (E m)] w (.tuple #[S (Lib.cut l m).1,S (Lib.cut l m).2.1,.bool (Lib.cut l m).2.2]):=by
 obtain⟨_,M,c⟩:=a;have h:=Any.strings_Cut laysCutAt (E l) (E m) M w (by rw[aF];omega) c;rw[show(E l).data.toList=l from cW l,show(E m).data.toList=m from cW m]at h;refine h.m ?_;rintro e w'⟨rfl,n,rfl⟩;exact⟨rfl,ft (gT _ _) n⟩
abbrev H9:Ending:=.panicked [{v:=.iface 232 (.agg #[]),recovered:=false}]
def a8O:Option Int->Ending|some n=>.returned (.int .i64 n)|none=>H9
def b0h:Option Int->Ending|some n=>.returned (.int .u16 n)|none=>H9
theorem sa(b n:Int){l:O}{k:Nat}(h:k<l.length):qK b n (l.drop k)=if fg (G l[k]) b<0 then none else qK b (n*b+fg (G l[k]) b) (l.drop (k+1)):=by
 rw[aC h];rfl
theorem Cb(l:O)(w:H)(hl:l.length<=1024000000):Calls prog 262 #[.string (E l)] w λe w'=>e=a8O (gd l)/\w'=w:=by
 obtain⟨R,t⟩:=V (gd l);rw[<-t];unfold gd at t;obtain⟨s,hs⟩:=V (E l);have hsz:s.size=l.length:=by rw[hs,aF]
 have u:∀k (P:k<s.size) (hk2:k<l.length),((s[k]'P).toNat:Int)=G l[k]:=λk P hk2=>cy hs P hk2;have z:(s.toList=[]) ↔ l=[]:=by rw[hs,aB]
 rw[<-hs];clear hs;obtain⟨N,hN⟩:=V (s.size);have iP:s.size=N:=hN.symm;have oP:N<=1024000000:=M0;have mc:N=l.length:=M0;clear hN hsz hl;by_cases hnil:l=[]
 ·rw[ge (.inl hnil)]at t
  have C:=z.mpr hnil;have he:s.toList.isEmpty=true:=by rw[C];rfl
  clear z u mc;have v:=F t;clear t;go_enter func262,ntmps262;go_wp2_with fail;exact⟨rfl,by rw[v.o];rfl,rfl⟩
 have C:¬s.toList=[]:=λh=>hnil (z.mp h);have he:s.toList.isEmpty=false:=by simpa using C
 clear z;by_cases h3:3<N
 ·rw[ge (.inr (.inl M0))]at t
  clear u mc;have v:=F t;clear t;go_enter func262,ntmps262;go_wp2_with fail;exact⟨rfl,by rw[v.o];rfl,rfl⟩
 have hN0:0<N:=by have:l.length≠0:=λe=>hnil (az e);omega
 have hs0:0<s.size:=by rw[iP];exact hN0
 have hx0:=u 0 hs0 M0;by_cases L:1<N/\G (l[0]' M0)=48
 ·rw[ge (.inr (.inr ⟨M0,by
   rw[b1n,aG M0];exact congrArg some (eX (y:=48) (L.2.trans P8))⟩))]at t
  rw[L.2]at hx0;obtain⟨Y,-⟩:=L;clear u mc;have v:=F t;clear t;go_enter func262,ntmps262;go_wp2_with fail;exact⟨rfl,by rw[v.o];rfl,rfl⟩
 rw[gc (by
  rintro(h|h|⟨h,h'⟩)
  ·exact hnil h
  ·omega
  refine L ⟨M0,?_⟩;rw[b1n,aG M0]at h';injection h' with h'
  rw[h'];decide)]at t
 obtain⟨X',hX⟩:=V (G (l[0]' M0));rw[<-hX]at hx0 L;have M:1<N->(X'==48)=false:=λh=>by simp;exact λe=>L ⟨h,e⟩
 clear hX L;have v:=F t;clear t;have iV:=F u;clear u;have eM:=F mc;clear mc;have Yy:=F hnil;clear hnil;obtain⟨D0,HD⟩:=ey (qK 10 0 l);have f:=v.o;rw[<-HD.o]at f;have v:=F f;clear f
 have CQ:∀k:Nat,k<=3->(10:Int) ^ k<=1000:=by
  intro k P;have:k=0\/k=1\/k=2\/k=3:=M0;rcases this with rfl|rfl|rfl|rfl <;>decide
 have Q:=F CQ;clear CQ;by_cases h1N:1<N
 ·have hz2:=M h1N
  clear M;go_enter func262,ntmps262;go_wp2_with fail
  go_loopw [3,27] (λnv iv wr=>∃(k:Nat) (n:Int),k<=N/\iv=.int .i64 k/\nv=.int .i64 n/\Hid (qK 10 n (l.drop k)=D0)/\0<=n/\n<10 ^ k/\w=wr) (λ_ i _=>N-(intOf i).toNat)
  exact⟨0,0,aL _,Oc,Oc,HD.o.symm,M0,P8,rfl⟩
  obtain⟨k,n,P,rfl,rfl,hd,hn0,g,rfl⟩:=hrel;have hp:=Q.o k M0;by_cases K:k<N
  ·have mf:k<s.size:=by rw[iP];exact K
   have d:k<l.length:=by have:=eM.o;omega
   have X:=iV.o k mf d;have c:=sa 10 n d;rw[hd.o]at c;have f:=jL (l[k]'d);have p:=λW=>dm (G (l[k]'d)) 10 W f M0;have J:=a1g (G (l[k]'d));generalize fg (G (l[k]'d)) 10=D at c p J;generalize G (l[k]'d)=Y' at X f p;have rN:=F p;clear p hd;by_cases j:D<0
   ·rw[ge j]at c
    have f:=v.o;rw[c]at f;have a:=F f;clear c f;have J6:=F g;clear g hp
    go_wp2_with(go_at_call 93;refine(rN.o _).e ?_)
    exact⟨rfl,by rw[a.o];rfl,rfl⟩
   rw[gc j]at c;have x:n*10+D<10 ^ (k+1):=by rw[lq];omega
   have hw1:IntKind.i64.wrap (n*10)=n*10:=gS _ M0;have q:IntKind.i64.wrap (n*10+D)=n*10+D:=gS _ M0;have a:=F c;clear c;have J6:=F g;clear g hp;have mh:=F x;clear x
   go_wp2_with(go_at_call 93;refine(rN.o _).e ?_)
   go_roundw
   exact⟨k+1,n*10+D,M0,Oc,by simp;try omega,a.o.symm,M0,mh.o,by trivial⟩
   exact aa
  obtain rfl:k=N:=M0;have B:l.drop k=[]:=bE (by have:=eM.o;omega);have r:=hd.o;rw[B]at r;have f:=v.o;rw[show D0=some n from r.symm]at f;have a:=fo (R=if 255<n then none else some n) f;clear r f hd;clear g hp;by_cases T:255<n
  ·rw[ge T]at a
   go_wp2_with fail;exact⟨rfl,by rw[a.o];rfl,rfl⟩
  rw[gc T]at a;go_wp2_with fail;go_ret;exact⟨by rw[a.o];rfl,rfl⟩
 clear M;go_enter func262,ntmps262;go_wp2_with fail
 go_loopw [3,27] (λnv iv wr=>∃(k:Nat) (n:Int),k<=N/\iv=.int .i64 k/\nv=.int .i64 n/\Hid (qK 10 n (l.drop k)=D0)/\0<=n/\n<10 ^ k/\w=wr) (λ_ i _=>N-(intOf i).toNat)
 exact⟨0,0,aL _,Oc,Oc,HD.o.symm,M0,P8,rfl⟩
 obtain⟨k,n,P,rfl,rfl,hd,hn0,g,rfl⟩:=hrel;have hp:=Q.o k M0;by_cases K:k<N
 ·have mf:k<s.size:=by rw[iP];exact K
  have d:k<l.length:=by have:=eM.o;omega
  have X:=iV.o k mf d;have c:=sa 10 n d;rw[hd.o]at c;have f:=jL (l[k]'d);have p:=λW=>dm (G (l[k]'d)) 10 W f M0;have J:=a1g (G (l[k]'d));generalize fg (G (l[k]'d)) 10=D at c p J;generalize G (l[k]'d)=Y' at X f p;have rN:=F p;clear p hd;by_cases j:D<0
  ·rw[ge j]at c
   have f:=v.o;rw[c]at f;have a:=F f;clear c f;have J6:=F g;clear g hp
   go_wp2_with(go_at_call 93;refine(rN.o _).e ?_)
   exact⟨rfl,by rw[a.o];rfl,rfl⟩
  rw[gc j]at c;have x:n*10+D<10 ^ (k+1):=by rw[lq];omega
  have hw1:IntKind.i64.wrap (n*10)=n*10:=gS _ M0;have q:IntKind.i64.wrap (n*10+D)=n*10+D:=gS _ M0;have a:=F c;clear c;have J6:=F g;clear g hp;have mh:=F x;clear x
  go_wp2_with(go_at_call 93;refine(rN.o _).e ?_)
  go_roundw
  exact⟨k+1,n*10+D,M0,Oc,by simp;try omega,a.o.symm,M0,mh.o,by trivial⟩
  exact aa
 obtain rfl:k=N:=M0;have B:l.drop k=[]:=bE (by have:=eM.o;omega);have r:=hd.o;rw[B]at r;have f:=v.o;rw[show D0=some n from r.symm]at f;have a:=fo (R=if 255<n then none else some n) f;clear r f hd;clear g hp;by_cases T:255<n
 ·rw[ge T]at a
  go_wp2_with fail;exact⟨rfl,by rw[a.o];rfl,rfl⟩
 rw[gc T]at a;go_wp2_with fail;go_ret;exact⟨by rw[a.o];rfl,rfl⟩

theorem yR(l:O)(w:H)(hl:l.length<=1024000000):Calls prog 252 #[.string (E l)] w λe w'=>e=b0h (jE l)/\w'=w:=by
 obtain⟨R,j⟩:=V (jE l);rw[<-j];unfold jE at j;obtain⟨s,J⟩:=V (E l);have T:s.size=l.length:=by rw[J,aF]
 have q:∀k (z:k<s.size) (B:k<l.length),((s[k]'z).toNat:Int)=G l[k]:=λk z B=>cy J z B;have t:(s.toList=[]) ↔ l=[]:=by rw[J,aB]
 rw[<-J];clear J;obtain⟨N,hN⟩:=V (s.size);have iP:s.size=N:=hN.symm;have oP:N<=1024000000:=M0;have K:N=l.length:=M0;clear hN T hl;by_cases hnil:l=[]
 ·rw[ge (.inl hnil)]at j
  have y:=t.mpr hnil;have he:s.toList.isEmpty=true:=by rw[y];rfl
  clear t q K;have v:=F j;clear j;go_enter func252,ntmps252;go_wp2_with fail;exact⟨rfl,by rw[v.o];rfl,rfl⟩
 have y:¬s.toList=[]:=λh=>hnil (t.mp h);have he:s.toList.isEmpty=false:=by simpa using y
 clear t;by_cases h3:4<N
 ·rw[ge (.inr M0)]at j
  clear q K;have v:=F j;clear j;go_enter func252,ntmps252;go_wp2_with fail;exact⟨rfl,by rw[v.o];rfl,rfl⟩
 rw[gc (by
  rintro(h|h)
  ·exact hnil h
  omega)]at j
 have v:=F j;clear j;have iV:=F q;clear q;have eM:=F K;clear K;have Yy:=F hnil;clear hnil;obtain⟨D0,HD⟩:=ey (qK 16 0 l);have d:=v.o;rw[<-HD.o]at d;have v:=F d;clear d
 have CQ:∀k:Nat,k<=4->(16:Int) ^ k<=65536:=by
  intro k z;have:k=0\/k=1\/k=2\/k=3\/k=4:=M0;rcases this with rfl|rfl|rfl|rfl|rfl <;>decide
 have L:=F CQ;clear CQ;go_enter func252,ntmps252;go_wp2_with fail
 go_loopw [3,17] (λnv iv wr=>∃(k:Nat) (n:Int),k<=N/\iv=.int .i64 k/\nv=.int .i64 n/\Hid (qK 16 n (l.drop k)=D0)/\0<=n/\n<16 ^ k/\w=wr) (λ_ i _=>N-(intOf i).toNat)
 exact⟨0,0,aL _,Oc,Oc,HD.o.symm,M0,P8,rfl⟩
 obtain⟨k,n,z,rfl,rfl,hd,hn0,p,rfl⟩:=hrel;have hp:=L.o k M0;by_cases Q:k<N
 ·have mf:k<s.size:=by rw[iP];exact Q
  have c:k<l.length:=by have:=eM.o;omega
  have X:=iV.o k mf c;have a:=sa 16 n c;rw[hd.o]at a;have d:=jL (l[k]'c);have r:=λW=>dm (G (l[k]'c)) 16 W d M0;have P:=zX (G (l[k]'c));generalize fg (G (l[k]'c)) 16=D at a r P;generalize G (l[k]'c)=Y' at X d r;have rN:=F r;clear r hd;by_cases f:D<0
  ·rw[ge f]at a
   have d:=v.o;rw[a]at d;have g:=F d;clear a d;have J6:=F p;clear p hp
   go_wp2_with(go_at_call 93;refine(rN.o _).e ?_)
   exact⟨rfl,by rw[g.o];rfl,rfl⟩
  rw[gc f]at a;have C:n*16+D<16 ^ (k+1):=by rw[lq];omega
  have hw1:IntKind.i64.wrap (n*16)=n*16:=gS _ M0;have u:IntKind.i64.wrap (n*16+D)=n*16+D:=gS _ M0;have g:=F a;clear a;have J6:=F p;clear p hp;have mh:=F C;clear C
  go_wp2_with(go_at_call 93;refine(rN.o _).e ?_)
  go_roundw
  exact⟨k+1,n*16+D,M0,Oc,by simp;try omega,g.o.symm,M0,mh.o,by trivial⟩
  exact aa
 obtain rfl:k=N:=M0;have M:l.drop k=[]:=bE (by have:=eM.o;omega);have x:=hd.o;rw[M]at x;have d:=v.o;rw[show D0=some n from x.symm]at d;have hwr:IntKind.u16.wrap n=n:=by rw[IntKind.wrap_u16];omega
 have g:=fo (R=some n) d;clear x d hd;clear p hp;go_wp2_with fail;go_ret;exact⟨by rw[g.o];rfl,rfl⟩

def z9:Nat->Int->O->Option Int
 |0,n,_=>some n
 |r+1,n,s=>if(Lib.cut s [46]).2.2≠decide (0<r)then none else match gd (Lib.cut s [46]).1 with|none=>none|some d=>z9 r (n*256+d) (Lib.cut s [46]).2.1
def FK:Nat->Int->List O->Option Int
 |0,n,_=>some n
 |_+1,_,[]=>none
 |r+1,n,p::ps=>if(!ps.isEmpty)≠decide (0<r)then none else match gd p with|none=>none|some d=>FK r (n*256+d) ps
theorem yr:∀(r:Nat) (n:Int) (s:O),z9 r n s=FK r n (ic 46 s)
 |0,_,_=>rfl
 |r+1,n,s=>by
  by_cases h:(46:UInt8)∈s
  ·obtain⟨p,t,Y,I,c⟩:=ou h
   obtain⟨q,qs,g⟩:=jV 46 t;have e:ic 46 s=p::ic 46 t:=by rw[Y,uY,oL I];rfl
   unfold z9;rw[e,c];show _=if(!(ic 46 t).isEmpty)≠decide (0<r)then none else match gd p with|none=>none|some d=>FK r (n*256+d) (ic 46 t)
   have a:(!(ic 46 t).isEmpty)=true:=by rw[g];rfl
   rw[a];dsimp only
   split
   ·rfl
   cases gd p with
   |none=>rfl
   |some d=>exact yr r _ t
  have c:=b68 h;have e:ic 46 s=[s]:=oL h;unfold z9;rw[e,c];show _=if(!([]:List O).isEmpty)≠decide (0<r)then none else match gd s with|none=>none|some d=>FK r (n*256+d) []
  have a:(!([]:List O).isEmpty)=false:=rfl;rw[a];dsimp only;by_cases f:0<r
  ·rw[ge (by simp[f]),ge (by simp[f])]
  obtain rfl:r=0:=M0;rw[gc Oc,gc Oc];rfl
theorem Zv(l:List O)(f:l ≠ []):FK 4 0 l=(fnL l).map λv=>v.1*65536+v.2:=by
 have I:∀r n p g,FK (r+1) n (p::g)=if(!g.isEmpty)≠decide (0<r)then none else match gd p with|none=>none|some d=>FK r (n*256+d) g:=λ_ _ _ _=>rfl
 match l,f with
 | [],h=>exact absurd rfl h
 | [p],_=>rw[I];rfl
 | [p,q],_=>rw[I,gc Oc];cases gd p <;>rfl
 | [p,q,r],_ =>
  rw[I,gc Oc];cases gd p with
  |none=>rfl
  |some a =>
   dsimp only;rw[I,gc Oc];cases gd q <;>rfl
 | [p,q,r,t],_ =>
  have e:fnL [p,q,r,t]=match gd p with|none=>none|some a=>match gd q with|none=>none|some b=>match gd r with|none=>none|some c=>match gd t with|none=>none|some d=>some (256*a+b,256*c+d):=rfl
  rw[I,gc Oc,e];clear e;cases gd p with
  |none=>rfl
  |some a =>
   dsimp only;rw[I,gc Oc];cases gd q with
   |none=>rfl
   |some b =>
    dsimp only;rw[I,gc Oc];cases gd r with
    |none=>rfl
    |some c =>
     dsimp only;rw[I,gc Oc];cases gd t with
     |none=>rfl
     |some d =>
      show some _=some _
      congr 1
      dsimp only;omega
 |p::q::r::t::u::v,_ =>
  have e:fnL (p::q::r::t::u::v)=none:=rfl;rw[I,gc Oc,e];cases gd p with
  |none=>rfl
  |some a =>
   dsimp only;rw[I,gc Oc];cases gd q with
   |none=>rfl
   |some b =>
    dsimp only;rw[I,gc Oc];cases gd r with
    |none=>rfl
    |some c =>
     dsimp only;rw[I,ge Oc];rfl
theorem Zw(s:O):z9 4 0 s=(fnF s).map λv=>v.1*65536+v.2:=by
 rw[yr];exact Zv _ (by obtain⟨p,ps,h⟩:=jV 46 s;rw[h];simp)
def a8U:Option (Int×Int)->Ending|some v=>.returned (.tuple #[.int .u16 v.1,.int .u16 v.2])|none=>H9
theorem LK(v:Nat)(hv:v<4294967296):bits BinOp.and IntKind.i64 (v:Int) 65535=((v%65536:Nat):Int):=by
 have h:=bits_mask .i64 63 P8 (λn h0 Y=>gS _ M0) 16 P8 (v:Int) M0 M0;have e:((2:Int) ^ 16-1)=65535:=P8;have a:((2:Int) ^ 16)=65536:=P8;rw[e,a]at h;rw[h];omega
theorem BX(s m:O):(Lib.cut s m).2.1.length<=s.length/\(Lib.cut s m).1.length<=s.length:=by
 unfold Lib.cut
 split
 ·simp[List.length_drop,List.length_take];omega
 simp
theorem Cz(l:O)(w:H)(hl:l.length<=1024000000)(hE:Env w):Calls prog 251 #[.string (E l)] w λe C=>e=a8U (fnF l)/\r7 w C:=by
 have hF:=Zw l;have M:∀v,fnF l=some v->(0<=v.1/\v.1<65536)/\(0<=v.2/\v.2<65536):=λv h=>yt h;generalize fnF l=R at hF M⊢;obtain⟨s,HS⟩:=ey (E l);rw[<-HS.o];have HF:=F hF;clear hF;have EE:=F M;clear M;have SW:=F hE;clear hE;have HL:=F hl;clear hl
 have CQ:∀k:Nat,k<=3->(256:Int) ^ k<=16777216:=by
  intro k hk;have:k=0\/k=1\/k=2\/k=3:=M0;rcases this with rfl|rfl|rfl|rfl <;>decide
 have HPW:=F CQ;clear CQ;go_enter func251,ntmps251;go_wp2_with fail
 go_loopw [0,4,9] (λsv nv iv wr=>∃(k:Nat) (n:Int) (t:O),k<=4/\iv=.int .i64 k/\nv=.int .i64 n/\sv=.string (E t)/\Hid (z9 (4-k) n t=R.map λv=>v.1*65536+v.2)/\Hid (t.length<=l.length)/\0<=n/\Hid (n<256 ^ k)/\r7 w wr) (λ_ _ i _=>4-(intOf i).toNat)
 exact⟨0,0,l,M0,Oc,Oc,by rw[HS.o],HF.o,ag _,M0,(by decide:(0:Int)<256 ^ 0),gT _ _⟩
 obtain⟨k,n,t,hk,rfl,rfl,rfl,hf,B,hn0,z,U⟩:=hrel;have HB:=F U;clear U;by_cases hlt:k<4
 ·have K:=BX t [46]
  have me:=λW (h:r7 w W)=>gK t [46] W (by have:=B.o;have:=HL.o;omega) (SW.o.below h);rw[show E [46]=⟨#[46]⟩from rfl]at me;have c:=hf.o;rw[show 4-k=(3-k)+1 by omega]at c;unfold z9 at c;obtain⟨T,J,c3,hc⟩:∃T J c3,Lib.cut t [46]=(T,J,c3):=⟨_,_,_,rfl⟩;rw[hc]at me c K;dsimp only at me c K;have hl1:T.length<=1024000000:=by have:=B.o;have:=HL.o;omega
  have hl2:J.length<=l.length:=by have:=B.o;omega
  have f:=λW=>Cb T W hl1;have Q:=F<|me _ HB.o;clear me hc hf;have HL2:=F hl2;clear hl2 hl1 K B;obtain⟨u,hu⟩:=V (E t);rw[<-hu]at Q;rw[<-hu];clear hu;have y:k<3\/k=3:=M0;have J6:=F z.o;clear z;have hp:=HPW.o k M0;have CO:n<16777216:=by have:=J6.o;omega
  have hn2:∀d:Int,d<256->n*256+d<256 ^ (k+1):=λd hd=>by rw[lq];have:=J6.o;omega
  clear hp;have Z7:IntKind.i64.wrap (n*256)=n*256:=gS _ M0;have mh:=F hn2;clear hn2;cases c3 with
  |true =>
   rcases y with y|rfl
   ·rw[gc (by simp;omega)]at c
    have ZR:(k:Int)<3:=M0;cases p:gd T with
    |none =>
     rw[p]at c f;have x:R=none:=by cases R with|none=>rfl|some v=>cases c
     have P:=F x;clear x c
     change ∀W,Calls _ _ _ W λe C=>e=H9/\C=W at f
     have D:=F f;clear f p
     go_wp2_with(first|(go_at_call 72;refine(Q.o).k λw2 g=>?_;have j:=F<|HB.o.trans (g.o.m HB.o.size);clear g)|(go_at_call 262;refine(D.o _).e ?_))
     exact⟨rfl,by rw[P.o];rfl,j.o⟩
    |some d =>
     rw[p]at c f;have L:=kg p;have Hs:=F (show z9 (4-(k+1)) (n*256+d) J=R.map λv=>v.1*65536+v.2 by rw[show 4-(k+1)=3-k by omega];exact c);clear c
     change ∀W,Calls _ _ _ W λe C=>e=.returned (.int .i64 d)/\C=W at f
     have D:=F f;clear f p;have a98:IntKind.i64.wrap (n*256+d)=n*256+d:=gS _ M0
     go_wp2_with(first|(go_at_call 72;refine(Q.o).k λw2 g=>?_;have j:=F<|HB.o.trans (g.o.m HB.o.size);clear g)|(go_at_call 262;refine(D.o _).e ?_))
     go_roundw
     exact⟨k+1,n*256+d,J,M0,Oc,r5,r5,Hs.o,HL2.o,M0,mh.o d L.2,j.o⟩
     exact aa
   rw[ge Oc]at c;have x:R=none:=by cases R with|none=>rfl|some v=>cases c
   have P:=F x;clear x c f
   go_wp2_with(go_at_call 72;refine(Q.o).k λw2 g=>?_;have j:=F<|HB.o.trans (g.o.m HB.o.size);clear g)
   exact⟨rfl,by rw[P.o];rfl,j.o⟩
  |false =>
   rcases y with y|rfl
   ·rw[ge (by simp;omega)]at c
    have ZR:(k:Int)<3:=M0;have x:R=none:=by cases R with|none=>rfl|some v=>cases c
    have P:=F x;clear x c f
    go_wp2_with(go_at_call 72;refine(Q.o).k λw2 g=>?_;have j:=F<|HB.o.trans (g.o.m HB.o.size);clear g)
    exact⟨rfl,by rw[P.o];rfl,j.o⟩
   rw[gc Oc]at c;cases p:gd T with
   |none =>
    rw[p]at c f;have x:R=none:=by cases R with|none=>rfl|some v=>cases c
    have P:=F x;clear x c
    change ∀W,Calls _ _ _ W λe C=>e=H9/\C=W at f
    have D:=F f;clear f p
    go_wp2_with(first|(go_at_call 72;refine(Q.o).k λw2 g=>?_;have j:=F<|HB.o.trans (g.o.m HB.o.size);clear g)|(go_at_call 262;refine(D.o _).e ?_))
    exact⟨rfl,by rw[P.o];rfl,j.o⟩
   |some d =>
    rw[p]at c f;have L:=kg p;have Hs:=fo (z9 (4-(3+1)) (n*256+d) J=R.map λv=>v.1*65536+v.2) c;clear c
    change ∀W,Calls _ _ _ W λe C=>e=.returned (.int .i64 d)/\C=W at f
    have D:=F f;clear f p;have a98:IntKind.i64.wrap (n*256+d)=n*256+d:=gS _ M0
    go_wp2_with(first|(go_at_call 72;refine(Q.o).k λw2 g=>?_;have j:=F<|HB.o.trans (g.o.m HB.o.size);clear g)|(go_at_call 262;refine(D.o _).e ?_))
    go_roundw
    exact⟨3+1,n*256+d,J,M0,r5,r5,r5,Hs.o,HL2.o,M0,mh.o d L.2,j.o⟩
    simp[intOf]
 obtain rfl:k=4:=M0;have c:=hf.o;have q:some n=R.map λv=>v.1*65536+v.2:=c;have hn4:n<4294967296:=z.o;cases R with
 |none=>cases q
 |some v =>
  injection q with q
  replace q:n=v.1*65536+v.2:=q;have hr:=EE.o v rfl;obtain⟨N,rfl⟩:∃N:Nat,n=N:=⟨n.toNat,M0⟩;have hmk:=LK N M0;obtain⟨a,ha,b,U⟩:=ac (v.1) (v.2);rw[<-ha,<-U]at hr q;have e1:((N%65536:Nat):Int)=b:=M0;rw[e1]at hmk;have HV:=F (show v=(a,b) by rw[ha,U]);clear ha U hf c z e1;have Qb:IntKind.u16.wrap a=a:=by rw[IntKind.wrap_u16];omega
  have hwb:IntKind.u16.wrap b=b:=by rw[IntKind.wrap_u16];omega
  have hdv:(N:Int)/65536=a:=M0;have Hs:=F q;clear q;go_wp2_with fail
  go_ret2
  exact⟨by rw[HV.o];rfl,HB.o⟩

abbrev dz(l:List Int):List Z:=l.map (Value.int .u16)
theorem D5:(prog.info? 29).map (λi=>(i.zero,i.size,i.bytes))=some (some (.int .u16 0),1,2):=Rz
theorem X2{P:Program}{ops:Array Oper}{rest:List Oper}{o:Oper}{a:Act}{Q:Exit->Act->H->Prop}(p:o.guard=none)(s x:Operand)(t:TypeId)
  (B:o.op=.call {callee:=.builtin .append,args:=#[s,x],argTypes:=#[t,t]})
  (base:Nat) (e:TypeId) (i:TypeInfo) (z:Z) (bytes:Nat) (D:P.underlying t=some (.slice e)) (hi:P.info? e=some i) (J:i.zero=some z)
  (hsize:i.size=1) (m:i.bytes=bytes) (r:z.cells.size=1) (w:H)
  (v:Z) (n:Nat) (xs:List Z) (C:a.eval s=v) (hown:w.ownsRow base e 1 v n xs) (f g:Z) (X:a.eval x=.slice (some ⟨w.heap.size,0,none⟩) 2 2) (Y:f.oneCell'=true) (I:g.oneCell'=true)
  (h63:n+2<=1099511627776) (hbytes:bytes<=64) (hbase:base<=w.heap.size)
  (h:∀l d,d.ownsRow base e 1 l (n+2) (xs++[f,g])->w.heap.size<d.heap.size->Below base w d->wpList P ops Q rest (a.put o.dst l) d) :
  wpList P ops Q (o::rest) a (w.alloc (.cells #[f,g] e)):=by
 refine wpList_append_own _ p s x t B base e i z 1 bytes D hi J hsize m r P8 v n xs C (hown.alloc _) ⟨w.heap.size,0,none⟩ 2 2 [f,g] X rfl ?_ ?_ ?_ ?_ ?_ ?_
 ·intro j K c
  match j,c with
  |0,c=>simp at c;subst c;simp[Addr.add]
  |1,c=>simp at c;subst c;simp[Addr.add]
 ·intro K hu
  simp at hu;rcases hu with rfl|rfl
  ·exact Y
  exact I
 ·unfold maxLen;omega
 ·have:(n+2)*bytes<=(n+2)*64:=ik _ hbytes
  omega
 ·simp;omega
 intro l d q u _;refine h l d q ?_ (((gT _ _).alloc hbase _).grown u (by simp;omega) (λk y=>(hown.lt k y).1));have:=u.size;simp at this;omega
def q7(w:H)(o:Option (List Int)):Ending->H->Prop:=λe w'=>(match o with|some l=>∃v,e=.returned v/\w'.ownsRow w.heap.size 29 1 v l.length (dz l)|none=>e=H9)/\r7 w w'
theorem q7.none{w a:H}{o:Option (List Int)}(h:o=none)(U:r7 w a):q7 w o H9 a:=by subst h;exact⟨rfl,U⟩
theorem q7.some{w a:H}{o:Option (List Int)}{l:List Int}{v:Z}(h:o=some l)(c:a.ownsRow w.heap.size 29 1 v l.length (dz l))(U:r7 w a):q7 w o (.returned v) a:=by subst h;exact⟨⟨v,rfl,c⟩,U⟩
theorem b0d(l:O)(W:H):bP prog 98 #[.string (E l),.int .u8 46] W (.int .i64 (Lib.indexByte l 46)):=by
 have h:=Any.strings_IndexByte laysIB (E l) 46 W;rw[show(E l).data.toList=l from cW l]at h;exact h
theorem Qi(l:O):0<=Lib.indexByte l 46 ↔ 46∈l:=by
 rw[oe];unfold iO;rw[m8];constructor
 ·rintro⟨x,X,h⟩
  have:x=46:=eX (by simpa using h);exact this▸X
 intro h;exact⟨46,h,Oc⟩
theorem Mh(nums:Bool){t p r:O}(h:t=p++58::r)(hp:58∉p):rowP nums (ic 58 t)=match jE p with|none=>none|some n=>(rowP nums (ic 58 r)).map (n::·):=by
 obtain⟨q,qs,a⟩:=jV 58 r;rw[h,uY,oL hp,a];rfl
theorem Mg(nums:Bool){t:O}(h:58∉t):rowP nums (ic 58 t)=endP nums t:=by
 rw[oL h];rfl
theorem ex{w:H}{base e n:Nat}{v:Z}{xs:List Z}(h:w.ownsRow base e 1 v n xs):∃a c,v=.slice a n c:=by
 rcases h.2 with⟨rfl,rfl⟩|⟨g,cap,cur,rfl,_⟩
 ·exact⟨_,_,rfl⟩
 exact⟨_,_,rfl⟩
theorem RM{T R:Option (List Int)}(c:R=match T with|none=>none|some l=>if 8<l.length then none else some l){a:List Int}{o:Option (List Int)}(d:o.map (a++·)=T)(h:8<a.length):R=none:=by
 subst d;cases o with
 |none=>exact c
 |some l=>rw[c];simp only[Xg];rw[ge (by rw[ae];omega)]
theorem AP(l:O)(nums:Bool)(w:H)(hl:l.length<=1024000000)(hE:Env w):Calls prog 242 #[.string (E l),.bool nums] w (q7 w (rm nums l)):=by
 obtain⟨i1,M,N,P,Q⟩:=info_parts D5;obtain⟨R,hR⟩:=V (rm nums l);rw[<-hR];unfold rm at hR;by_cases hnil:l=[]
 ·rw[ge hnil]at hR
  obtain⟨s,hs⟩:=V (E l);have he2:s.toList=[]:=by rw[hs,aB,hnil]
  have he:s.toList.isEmpty=true:=by rw[he2];rfl
  rw[<-hs];clear hs hnil hl hE;have HR:=F hR;clear hR;go_enter func242,ntmps242;go_wp2_with fail;go_ret;exact q7.some HR.o ⟨rfl,.inl ⟨rfl,rfl⟩⟩ (gT _ _)
 rw[gc hnil]at hR;obtain⟨T,hT⟩:=V (rowP nums (ic 58 l));rw[<-hT]at hR;obtain⟨s,hs⟩:=V (E l);have he2:¬s.toList=[]:=by rw[hs,aB];exact hnil
 have he:s.toList.isEmpty=false:=by simpa using he2
 rw[<-hs];have HS:=F hs;clear hs;have HR:=F hR;clear hR;have HT:=F hT;clear hT;have HL:=F hl;clear hl;have SW:=F hE;clear hE;clear hnil;go_enter func242,ntmps242;go_wp2_with fail
 go_loopw [0,5,6] (λsv lv mv wr=>∃(m:Bool) (t:O) (a:List Int),mv=.bool m/\sv=.string (E t)/\Hid (t.length<=l.length)/\wr.ownsRow w.heap.size 29 1 lv a.length (dz a)/\a.length<=8/\Hid ((if m then(rowP nums (ic 58 t)).map (a++·)else some a)=T)/\w.heap.size<=wr.heap.size/\r7 w wr) (λsv _ mv _=>match mv with | .bool true=>Gm sv+1|_=>0)
 exact⟨true,l,[],Oc,by rw[HS.o],ag _,⟨rfl,.inl ⟨rfl,rfl⟩⟩,Oc,by rw[ge rfl,HT.o];cases rowP nums (ic 58 l) <;>rfl,ag _,gT _ _⟩
 obtain⟨m,t,a,rfl,rfl,htl,hown,Tc,hinv,z,U⟩:=hrel;have J:=F hown;clear hown;have HB:=F U;clear U;cases m with
 |false =>
  have hT:some a=T:=hinv.o;have hRa:R=some a:=by rw[HR.o,<-hT];dsimp only;rw[gc M0]
  have dI:=F hRa;clear hRa hT hinv;go_wp2_with fail;go_ret;exact q7.some dI.o J.o HB.o
 |true =>
  have j:(rowP nums (ic 58 t)).map (a++·)=T:=hinv.o;have htm:t.length<=1024000000:=by have:=htl.o;have:=HL.o;omega
  have me:=λW (h:r7 w W)=>gK t [58] W htm (SW.o.below h);rw[show E [58]=⟨#[58]⟩from rfl]at me;obtain⟨u,HU⟩:=ey (E t);have ng:u.size=t.length:=by rw[HU.o,aF]
  rw[<-HU.o]at me;rw[<-HU.o];have HUS:=F ng;clear ng hinv;by_cases FQ:(58:UInt8)∈t
  ·obtain⟨p,r,hpr,hp,hlc⟩:=ou FQ
   rw[hlc]at me;have lB:=F<|me _ HB.o;clear me hlc;rw[Mh nums hpr hp]at j;have hlr:p.length+r.length+1=t.length:=by rw[hpr];simp;omega
   have f:=λW=>yR p W M0;have HL2:=F (show r.length<=l.length by have:=htl.o;omega);have HLR:=F hlr;clear hlr htl htm FQ hpr hp;cases y:jE p with
   |none =>
    rw[y]at j f;clear y
    change ∀W,Calls _ _ _ W λe w'=>e=H9/\w'=W at f
    have Hu:=F f;clear f;have D:R=none:=by rw[HR.o,<-j];rfl
    have iT:=F D;clear D j
    go_wp2_with(first|(go_at_call 72;refine(lB.o).k λw2 c=>?_;have L:=F<|own_below J.o c.o;have d:=F<|HB.o.trans (c.o.m HB.o.size);have pp:=am z c.o.size;clear c)|(go_at_call 252;refine(Hu.o _).e ?_))
    exact⟨rfl,q7.none iT.o d.o⟩
   |some n =>
    rw[y]at j f;clear y
    replace j:(rowP nums (ic 58 r)).map ((a++[n])++·)=T:=by
     rw[<-j];cases rowP nums (ic 58 r) <;>simp
    change ∀W,Calls _ _ _ W λe w'=>e=.returned (.int .u16 n)/\w'=W at f
    have Hu:=F f;clear f;have B:dz a++[.int .u16 n]=dz (a++[n]):=Oc;have Yk:=F B;clear B;obtain⟨al,g⟩:=V (a.length);have ho:=J.o;rw[<-g]at ho Tc;have J:=F ho;clear ho;by_cases h9:al+1<=8
    ·have HI2:=F (show(if true=true then(rowP nums (ic 58 r)).map ((a++[n])++·)else some (a++[n]))=T from j);clear j
     have mW:=F g;clear g
     go_wp2_with(first|(go_at_call 72;refine(lB.o).k λw2 c=>?_;have L:=F<|own_below J.o c.o;have d:=F<|HB.o.trans (c.o.m HB.o.size);have pp:=am z c.o.size;clear c)|(go_at_call 252;refine(Hu.o _).e ?_)|(at_builtin;(refine et rfl 39 42 _ rfl w.heap.size 29 i1 (.int .u16 0) 2 underlying222 M N P Q P8 _ _ _ (dz a) rfl L.o (.int .u16 n) rfl rfl M0 P8 M0 ?_);intro v6 w6 hown6 P3 i;obtain⟨Y9,Zj,q⟩:=ex hown6;subst q;have Bu:=F hown6;clear hown6;have j8:=F<|d.o.trans i;clear i))
     go_roundw
     ·refine⟨true,r,a++[n],r5,r5,HL2.o,?_,by rw[ae,<-mW.o];exact h9,HI2.o,M0,j8.o⟩;rw[ae,<-mW.o,<-Yk.o];exact Bu.o
     ·simp[Gm,aF];have:=HLR.o;have:=HUS.o;omega
    have D:R=none:=RM HR.o (o:=rowP nums (ic 58 r)) j (by rw[ae,<-g];simp;omega);have iT:=F D;clear D j g
    go_wp2_with(first|(go_at_call 72;refine(lB.o).k λw2 c=>?_;have L:=F<|own_below J.o c.o;have d:=F<|HB.o.trans (c.o.m HB.o.size);have pp:=am z c.o.size;clear c)|(go_at_call 252;refine(Hu.o _).e ?_)|(at_builtin;(refine et rfl 39 42 _ rfl w.heap.size 29 i1 (.int .u16 0) 2 underlying222 M N P Q P8 _ _ _ (dz a) rfl L.o (.int .u16 n) rfl rfl M0 P8 M0 ?_);intro v6 w6 hown6 P3 i;obtain⟨Y9,Zj,q⟩:=ex hown6;subst q;have Bu:=F hown6;clear hown6;have j8:=F<|d.o.trans i;clear i))
    exact⟨rfl,q7.none iT.o j8.o⟩
  have hlc:=b68 FQ;rw[hlc]at me;have lB:=F<|me _ HB.o;clear me hlc;rw[Mg nums FQ]at j;clear FQ;unfold endP at j;have f:=λW=>yR t W htm;have hib:=λW=>b0d t W;have him:=Qi t;have K:=λW (h:r7 w W)=>Cz t W htm (SW.o.below h);have HL2:=F (show([]:O).length<=l.length from aL _);obtain⟨I',hI⟩:=V (Lib.indexByte t 46);rw[<-hI]at hib him;have L8:=F hib;clear hib hI;cases nums with
  |false =>
   rw[gc Oc]at j;clear him K L8;cases y:jE t with
   |none =>
    rw[y]at j f;clear y
    change ∀W,Calls _ _ _ W λe w'=>e=H9/\w'=W at f
    have Hu:=F f;clear f;have D:R=none:=by rw[HR.o,<-j];rfl
    have iT:=F D;clear D j
    go_wp2_with(first|(go_at_call 72;refine(lB.o).k λw2 c=>?_;have L:=F<|own_below J.o c.o;have d:=F<|HB.o.trans (c.o.m HB.o.size);have pp:=am z c.o.size;clear c)|(go_at_call 252;refine(Hu.o _).e ?_))
    exact⟨rfl,q7.none iT.o d.o⟩
   |some n =>
    rw[y]at j f;clear y
    change ∀W,Calls _ _ _ W λe w'=>e=.returned (.int .u16 n)/\w'=W at f
    have Hu:=F f;clear f;have B:dz a++[.int .u16 n]=dz (a++[n]):=Oc;have Yk:=F B;clear B;obtain⟨al,g⟩:=V (a.length);have ho:=J.o;rw[<-g]at ho Tc;have J:=F ho;clear ho;replace j:some (a++[n])=T:=j;by_cases h9:al+1<=8
    ·have HI2:=F (show(if false=true then(rowP false (ic 58 [])).map ((a++[n])++·)else some (a++[n]))=T from j);clear j
     have mW:=F g;clear g
     go_wp2_with(first|(go_at_call 72;refine(lB.o).k λw2 c=>?_;have L:=F<|own_below J.o c.o;have d:=F<|HB.o.trans (c.o.m HB.o.size);have pp:=am z c.o.size;clear c)|(go_at_call 252;refine(Hu.o _).e ?_)|(at_builtin;(refine et rfl 39 42 _ rfl w.heap.size 29 i1 (.int .u16 0) 2 underlying222 M N P Q P8 _ _ _ (dz a) rfl L.o (.int .u16 n) rfl rfl M0 P8 M0 ?_);intro v6 w6 hown6 P3 i;obtain⟨Y9,Zj,q⟩:=ex hown6;subst q;have Bu:=F hown6;clear hown6;have j8:=F<|d.o.trans i;clear i))
     go_roundw
     ·refine⟨false,[],a++[n],r5,r5,HL2.o,?_,by rw[ae,<-mW.o];exact h9,HI2.o,M0,j8.o⟩;rw[ae,<-mW.o,<-Yk.o];exact Bu.o
     ·simp
    have D:R=none:=by rw[HR.o,<-j];dsimp only;rw[ge (by rw[ae,<-g];simp;omega)]
    have iT:=F D;clear D j g
    go_wp2_with(first|(go_at_call 72;refine(lB.o).k λw2 c=>?_;have L:=F<|own_below J.o c.o;have d:=F<|HB.o.trans (c.o.m HB.o.size);have pp:=am z c.o.size;clear c)|(go_at_call 252;refine(Hu.o _).e ?_)|(at_builtin;(refine et rfl 39 42 _ rfl w.heap.size 29 i1 (.int .u16 0) 2 underlying222 M N P Q P8 _ _ _ (dz a) rfl L.o (.int .u16 n) rfl rfl M0 P8 M0 ?_);intro v6 w6 hown6 P3 i;obtain⟨Y9,Zj,q⟩:=ex hown6;subst q;have Bu:=F hown6;clear hown6;have j8:=F<|d.o.trans i;clear i))
    exact⟨rfl,q7.none iT.o j8.o⟩
  |true =>
   by_cases h46:(46:UInt8)∈t
   ·rw[ge ⟨rfl,h46⟩]at j
    have hI0:0<=I':=him.mpr h46;clear him h46 f;cases FU:fnF t with
    |none =>
     rw[FU]at j K;clear FU
     change ∀W,r7 w W->Calls _ _ _ W λe w'=>e=H9/\r7 W w' at K
     have HFN:=F K;clear K;have D:R=none:=by rw[HR.o,<-j];rfl
     have iT:=F D;clear D j
     go_wp2_with(first|(go_at_call 72;refine(lB.o).k λw2 c=>?_;have L:=F<|own_below J.o c.o;have d:=F<|HB.o.trans (c.o.m HB.o.size);have pp:=am z c.o.size;clear c)|(go_at_call 98;refine(L8.o _).e ?_)|(go_at_call 251;refine(HFN.o _ d.o).k λw5 x=>?_;have xn:=F<|own_below L.o x.o;have gD:=F<|d.o.trans (x.o.m d.o.size);have a4R:=am pp x.o.size;clear x))
     exact⟨rfl,q7.none iT.o gD.o⟩
    |some v =>
     rw[FU]at j K;clear FU;obtain⟨v1,v2⟩:=v
     change ∀W,r7 w W->Calls _ _ _ W λe w'=>e=.returned (.tuple #[.int .u16 v1,.int .u16 v2])/\r7 W w' at K
     have HFN:=F K;clear K;have B:dz a++[.int .u16 v1,.int .u16 v2]=dz (a++[v1,v2]):=Oc;have Yk:=F B;clear B;obtain⟨al,g⟩:=V (a.length);have ho:=J.o;rw[<-g]at ho Tc;have J:=F ho;clear ho;replace j:some (a++[v1,v2])=T:=j;by_cases h9:al+2<=8
     ·have HI2:=F (show(if false=true then(rowP true (ic 58 [])).map ((a++[v1,v2])++·)else some (a++[v1,v2]))=T from j);clear j
      have mW:=F g;clear g
      go_wp2_with(first|(go_at_call 72;refine(lB.o).k λw2 c=>?_;have L:=F<|own_below J.o c.o;have d:=F<|HB.o.trans (c.o.m HB.o.size);have pp:=am z c.o.size;clear c)|(go_at_call 98;refine(L8.o _).e ?_)|(go_at_call 251;refine(HFN.o _ d.o).k λw5 x=>?_;have xn:=F<|own_below L.o x.o;have gD:=F<|d.o.trans (x.o.m d.o.size);have a4R:=am pp x.o.size;clear x)|(at_builtin;(refine X2 rfl 34 37 _ rfl w.heap.size 29 i1 (.int .u16 0) 2 underlying222 M N P Q P8 _ _ _ (dz a) rfl xn.o (.int .u16 v1) (.int .u16 v2) rfl rfl rfl M0 P8 M0 ?_);intro v6 w6 hown6 P3 i;obtain⟨Y9,Zj,q⟩:=ex hown6;subst q;have Bu:=F hown6;clear hown6;have j8:=F<|gD.o.trans i;clear i))
      go_roundw
      ·refine⟨false,[],a++[v1,v2],r5,r5,HL2.o,?_,by rw[ae,<-mW.o];exact h9,HI2.o,M0,j8.o⟩;rw[ae,<-mW.o,<-Yk.o];exact Bu.o
      ·simp
     have D:R=none:=by rw[HR.o,<-j];dsimp only;rw[ge (by rw[ae,<-g];simp;omega)]
     have iT:=F D;clear D j g
     go_wp2_with(first|(go_at_call 72;refine(lB.o).k λw2 c=>?_;have L:=F<|own_below J.o c.o;have d:=F<|HB.o.trans (c.o.m HB.o.size);have pp:=am z c.o.size;clear c)|(go_at_call 98;refine(L8.o _).e ?_)|(go_at_call 251;refine(HFN.o _ d.o).k λw5 x=>?_;have xn:=F<|own_below L.o x.o;have gD:=F<|d.o.trans (x.o.m d.o.size);have a4R:=am pp x.o.size;clear x)|(at_builtin;(refine X2 rfl 34 37 _ rfl w.heap.size 29 i1 (.int .u16 0) 2 underlying222 M N P Q P8 _ _ _ (dz a) rfl xn.o (.int .u16 v1) (.int .u16 v2) rfl rfl rfl M0 P8 M0 ?_);intro v6 w6 hown6 P3 i;obtain⟨Y9,Zj,q⟩:=ex hown6;subst q;have Bu:=F hown6;clear hown6;have j8:=F<|gD.o.trans i;clear i))
     exact⟨rfl,q7.none iT.o j8.o⟩
   rw[gc (λa=>h46 a.2)]at j;have hI0:I'<0:=Int.not_le.mp (λh=>h46 (him.mp h));clear him K;cases y:jE t with
   |none =>
    rw[y]at j f;clear y
    change ∀W,Calls _ _ _ W λe w'=>e=H9/\w'=W at f
    have Hu:=F f;clear f;have D:R=none:=by rw[HR.o,<-j];rfl
    have iT:=F D;clear D j
    go_wp2_with(first|(go_at_call 72;refine(lB.o).k λw2 c=>?_;have L:=F<|own_below J.o c.o;have d:=F<|HB.o.trans (c.o.m HB.o.size);have pp:=am z c.o.size;clear c)|(go_at_call 98;refine(L8.o _).e ?_)|(go_at_call 252;refine(Hu.o _).e ?_))
    exact⟨rfl,q7.none iT.o d.o⟩
   |some n =>
    rw[y]at j f;clear y
    change ∀W,Calls _ _ _ W λe w'=>e=.returned (.int .u16 n)/\w'=W at f
    have Hu:=F f;clear f;have B:dz a++[.int .u16 n]=dz (a++[n]):=Oc;have Yk:=F B;clear B;obtain⟨al,g⟩:=V (a.length);have ho:=J.o;rw[<-g]at ho Tc;have J:=F ho;clear ho;replace j:some (a++[n])=T:=j;by_cases h9:al+1<=8
    ·have HI2:=F (show(if false=true then(rowP true (ic 58 [])).map ((a++[n])++·)else some (a++[n]))=T from j);clear j
     have mW:=F g;clear g
     go_wp2_with(first|(go_at_call 72;refine(lB.o).k λw2 c=>?_;have L:=F<|own_below J.o c.o;have d:=F<|HB.o.trans (c.o.m HB.o.size);have pp:=am z c.o.size;clear c)|(go_at_call 98;refine(L8.o _).e ?_)|(go_at_call 252;refine(Hu.o _).e ?_)|(at_builtin;(refine et rfl 39 42 _ rfl w.heap.size 29 i1 (.int .u16 0) 2 underlying222 M N P Q P8 _ _ _ (dz a) rfl L.o (.int .u16 n) rfl rfl M0 P8 M0 ?_);intro v6 w6 hown6 P3 i;obtain⟨Y9,Zj,q⟩:=ex hown6;subst q;have Bu:=F hown6;clear hown6;have j8:=F<|d.o.trans i;clear i))
     go_roundw
     ·refine⟨false,[],a++[n],r5,r5,HL2.o,?_,by rw[ae,<-mW.o];exact h9,HI2.o,M0,j8.o⟩;rw[ae,<-mW.o,<-Yk.o];exact Bu.o
     ·simp
    have D:R=none:=by rw[HR.o,<-j];dsimp only;rw[ge (by rw[ae,<-g];simp;omega)]
    have iT:=F D;clear D j g
    go_wp2_with(first|(go_at_call 72;refine(lB.o).k λw2 c=>?_;have L:=F<|own_below J.o c.o;have d:=F<|HB.o.trans (c.o.m HB.o.size);have pp:=am z c.o.size;clear c)|(go_at_call 98;refine(L8.o _).e ?_)|(go_at_call 252;refine(Hu.o _).e ?_)|(at_builtin;(refine et rfl 39 42 _ rfl w.heap.size 29 i1 (.int .u16 0) 2 underlying222 M N P Q P8 _ _ _ (dz a) rfl L.o (.int .u16 n) rfl rfl M0 P8 M0 ?_);intro v6 w6 hown6 P3 i;obtain⟨Y9,Zj,q⟩:=ex hown6;subst q;have Bu:=F hown6;clear hown6;have j8:=F<|d.o.trans i;clear i))
    exact⟨rfl,q7.none iT.o j8.o⟩

theorem ET(w:H)(a:Z)(e:TypeId):At (w.alloc (.cells #[a] e)) w.heap.size 0 [a]:=by
 intro j c;rw[bM,hx]
 match j,c with
 |0,_=>rfl
