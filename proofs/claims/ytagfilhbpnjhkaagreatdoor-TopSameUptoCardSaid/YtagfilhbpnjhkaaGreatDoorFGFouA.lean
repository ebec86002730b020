import Derived.Test.YtagfilhbpnjhkaaGreatDoorFGIdnI
import Derived.Test.YtagfilhbpnjhkaaGreatDoorFGNumB
set_option maxRecDepth 10000
set_option maxHeartbeats 0
namespace Go.Proofs.Q
open Tryz Go.RowKit
variable{ps:List O}
def ic(c:UInt8):O->List O
 | []=>[[]]
 |x::r=>if x=c then []::ic c r else match ic c r with | []=>[[x]]|p::ps=>(x::p)::ps
theorem nS(c:UInt8)(r:O):ic c (c::r)=[]::ic c r:=by rw[ic,ge rfl]
theorem jV(c:UInt8):∀t,∃p ps,ic c t=p::ps
 | []=>⟨_,_,rfl⟩
 |x::r=>by
  unfold ic
  split
  ·exact⟨_,_,rfl⟩
  obtain⟨p,ps,h⟩:=jV c r;rw[h];exact⟨_,_,rfl⟩
theorem kx{c x:UInt8}{r p:O}(h:x≠c)(a:ic c r=p::ps):ic c (x::r)=(x::p)::ps:=by
 rw[ic,gc h,a]
theorem uY(c:UInt8):∀a b:O,ic c (a++c::b)=ic c a++ic c b
 | [],b=>by rw[f9,nS];rfl
 |x::r,b=>by
  have d:=uY c r b;obtain⟨p,ps,h⟩:=jV c r;by_cases X:x=c
  ·subst X
   rw[dE,nS,nS,d];rfl
  rw[h]at d;rw[dE,kx X d,kx X h];rfl
theorem oL{c:UInt8}{p:O}(h:c∉p):ic c p=[p]:=by
 induction p with
 |nil=>rfl
 |cons x r a =>
  have X:x≠c:=λI=>h (by simp[I]);exact kx X (a (λI=>h (by simp[I])))
theorem BT:∀t:O,ic 46 t=mr t
 | []=>rfl
 |x::r=>by rw[ic,mr,BT r];rfl
theorem uZ(c:UInt8):∀t:O,(ic c t).length<=t.length+1
 | []=>by simp[ic]
 |x::r=>by
  have a:=uZ c r;obtain⟨p,ps,h⟩:=jV c r;rw[h]at a;by_cases X:x=c
  ·subst X;rw[nS,h];simp at a⊢;omega
  rw[kx X h];simp at a⊢;omega
theorem mq(c:UInt8):∀(t p:O),p∈ic c t->p.length<=t.length/\c∉p/\∀x∈p,x∈t
 | [],p,h=>by simp[ic]at h;subst h;simp
 |x::r,p,h=>by
  obtain⟨q,qs,d⟩:=jV c r;by_cases X:x=c
  ·subst X
   rw[nS]at h;rcases aK.mp h with rfl|h
   ·simp
   obtain⟨Y,I,a⟩:=mq x r p h;exact⟨by simp;omega,I,λy hy=>cN _ (a y hy)⟩
  rw[kx X d]at h;rcases aK.mp h with rfl|h
  ·obtain⟨Y,I,a⟩:=mq c r q (by rw[d];simp)
   refine⟨by simp;omega,?_,?_⟩
   ·intro hm
    rcases aK.mp hm with e|hm
    ·exact X e.symm
    exact I hm
   intro y hy;rcases aK.mp hy with rfl|hy
   ·simp
   exact cN _ (a y hy)
  obtain⟨Y,I,a⟩:=mq c r p (by rw[d];exact cN _ h);exact⟨by simp;omega,I,λy hy=>cN _ (a y hy)⟩
def fW(b C:Int):Int->O->Option Int
 |n,[]=>some n
 |n,c::t=>if fg (G c) b<0 then none else fW b C (min (n*b+fg (G c) b) C) t
def un(C:Int):O->Option Int
 | []=>none
 | [c]=>fW 10 C 0 [c]
 |c::x::t=>if c=48 then(if x=120\/x=88 then fW 16 C 0 t else fW 8 C 0 (x::t))else fW 10 C 0 (c::x::t)
theorem Js(C:Int)(c x:UInt8)(t:O):un C (c::x::t)=if c=48 then(if x=120\/x=88 then fW 16 C 0 t else fW 8 C 0 (x::t))else fW 10 C 0 (c::x::t):=rfl
theorem a1a(b C:Int)(U:0<=b)(hC:0<=C):∀(l:O) (n v:Int),0<=n->n<=C->fW b C n l=some v->0<=v/\v<=C
 | [],n,v,h,I,e=>by unfold fW at e;injection e with e;subst e;exact⟨h,I⟩
 |c::t,n,v,h,_,e=>by
  unfold fW at e
  split at e
  ·cases e
  next hd =>
  have:=eh h U;exact a1a b C U hC t _ v M0 M0 e
theorem Gy{C:Int}(hC:0<=C){s:O}{v:Int}(h:un C s=some v):0<=v/\v<=C:=by
 match s,h with
 | [],h=>cases h
 | [c],h=>exact a1a 10 C M0 hC _ 0 v M0 hC h
 |c::x::t,h =>
  rw[Js]at h
  split at h
  ·split at h
   ·exact a1a 16 C M0 hC _ 0 v M0 hC h
   exact a1a 8 C M0 hC _ 0 v M0 hC h
  exact a1a 10 C M0 hC _ 0 v M0 hC h
def eQ(s:O):List O:=if 1<(ic 46 s).length/\(ic 46 s).getLast? = some []then(ic 46 s).dropLast else ic 46 s
theorem lQ(s:O):eQ s ≠ []:=by
 obtain⟨p,ps,h⟩:=jV 46 s;unfold eQ;rw[h]
 split
 ·next hc =>
  intro e;have:((p::ps).dropLast).length=0:=by rw[e];rfl
  rw[fY]at this;omega
 simp
theorem LV{s p:O}(h:p∈eQ s):p∈ic 46 s:=by
 unfold eQ at h
 split at h
 ·exact nI _ h
 exact h
theorem yP(s:O):(eQ s).length<=s.length+1:=by
 have:=uZ 46 s;unfold eQ
 split
 ·rw[fY];omega
 exact this
def Jk(t:O):Bool:=(un 4294967296 t).isSome||decide (t ≠ []/\(fW 10 4294967296 0 t).isSome=true)
def yo(s:O):Bool:=Jk ((eQ s).getLast (lQ s))
def room:Nat->Int|0=>4294967296|1=>16777216|2=>65536|3=>256|_=>1
def sj(C:Int):Nat->Int->List O->Option Int
 |_,s,[]=>some s
 |i,s,[p]=>match un C p with|none=>none|some n=>if room i<=n then none else some (s+n)
 |i,s,p::q::t=>match un C p with|none=>none|some n=>if 255<n then none else sj C (i+1) (s+n*room (i+1)) (q::t)
def fpF(ps:List O):Option Int:=if 4<ps.length then none else sj 4294967296 0 0 ps
def nZ(s:O):Option Int:=fpF (eQ s)
theorem room_le(i:Nat):1<=room i/\room i<=4294967296:=by unfold room;split <;>decide
theorem Md{i:Nat}(h:i<4):256*room (i+1)=room i:=by
 match i,h with
 |0,_=>decide
 |1,_=>decide
 |2,_=>decide
 |3,_=>decide
theorem vx:∀(ps:List O) (i:Nat) (s v:Int),ps ≠ []->i+ps.length<=4->0<=s->s+room i<=4294967296->sj 4294967296 i s ps=some v->0<=v/\v<4294967296
 | [],_,_,_,h,_,_,_,_=>absurd rfl h
 | [p],i,s,v,_,_,d,Y,e=>by
  unfold sj at e;cases h:un 4294967296 p with
  |none=>rw[h]at e;cases e
  |some n =>
   rw[h]at e;have c:=Gy P8 h;dsimp only at e
   split at e
   ·cases e
   injection e with e;omega
 |p::q::t,i,s,v,_,a,d,Y,e=>by
  unfold sj at e;cases h:un 4294967296 p with
  |none=>rw[h]at e;cases e
  |some n =>
   rw[h]at e;have c:=Gy P8 h;dsimp only at e
   split at e
   ·cases e
   next hc =>
   have hi:i<4:=by simp at a;omega
   have hs:=Md hi;have hr:=room_le (i+1);have hm:0<=n*room (i+1):=eh c.1 M0;have hm2:n*room (i+1)<=255*room (i+1):=eK M0 M0;exact vx (q::t) (i+1) _ v Oc (by simp at a⊢;omega) M0 M0 e
theorem Aa{s:O}{v:Int}(h:nZ s=some v):0<=v/\v<4294967296:=by
 unfold nZ fpF at h
 split at h
 ·cases h
 next hc=>exact vx _ 0 0 v (lQ s) M0 M0 P8 h

abbrev a2V(o:Option Int)(k:IntKind):Ending:=.returned (.tuple #[.int k (o.getD 0),.bool o.isSome])
theorem OG(b C n:Int){l:O}{k:Nat}(h:k<l.length):fW b C n (l.drop k)=if fg (G l[k]) b<0 then none else fW b C (min (n*b+fg (G l[k]) b) C) (l.drop (k+1)):=by
 rw[aC h];rfl
theorem iY(l:O)(b:Int)(w:H)(hl:l.length<=1024000000)(U:b=8\/b=10\/b=16) :
  Calls prog 249 #[.string (E l),.int .i64 b] w λe w'=>e=a2V (if l=[]then none else fW b 4294967296 0 l) .i64/\w'=w:=by
 obtain⟨R,HR⟩:=ey (fW b 4294967296 0 l);rw[<-HR.o];obtain⟨s,r⟩:=V (E l);have t:s.size=l.length:=by rw[r,aF]
 have j:∀k (u:k<s.size) (p:k<l.length),((s[k]'u).toNat:Int)=G l[k]:=λk u p=>cy r u p;have hemp:(s.toList=[]) ↔ l=[]:=by rw[r,aB]
 rw[<-r];clear r;obtain⟨N,P⟩:=V (s.size);have iP:s.size=N:=P.symm;have oP:N<=1024000000:=M0;have iV:=F j;clear j;have K:=F t;clear t hl P;have hb2:0<=b/\b<=16:=M0;by_cases hnil:l=[]
 ·rw[ge hnil]
  have he:=hemp.mpr hnil;have z:s.toList.isEmpty=true:=by simpa using he
  clear hemp;go_enter func249,ntmps249;go_wp2_with fail
  go_ret2
  exact⟨rfl,rfl⟩
 rw[gc hnil];have he:¬s.toList=[]:=λh=>hnil (hemp.mp h);have z:s.toList.isEmpty=false:=by simpa using he
 clear hemp;have Yy:=F hnil;clear hnil;have kM:=F U;clear U;go_enter func249,ntmps249;go_wp2_with fail
 go_loopw [6,13] (λnv iv wr=>∃(k:Nat) (n:Int),k<=N/\iv=.int .i64 k/\nv=.int .i64 n/\Hid (fW b 4294967296 n (l.drop k)=R)/\0<=n/\n<=4294967296/\w=wr) (λ_ i _=>N-(intOf i).toNat)
 exact⟨0,0,M0,Oc,Oc,HR.o.symm,M0,M0,rfl⟩
 obtain⟨k,n,u,rfl,rfl,hd,hn0,hn1,rfl⟩:=hrel;by_cases hlt:k<N
 ·have mf:k<s.size:=by omega
  have q:k<l.length:=by have:=K.o;omega
  have X:=iV.o k mf q;have a:=OG b 4294967296 n q;rw[hd.o]at a;have Q:=jL l[k];have d:=λW=>dm (G l[k]) b W Q M0
  have B:-1<=fg (G l[k]) b/\fg (G l[k]) b<36:=by
   unfold fg;simp only
   split <;>(try split) <;>(try split) <;>(try split) <;>omega
  generalize fg (G l[k]) b=D at a d B;generalize G l[k]=X' at X Q d;have J:=F d;clear d hd;have C:0<=n*b/\n*b<=68719476736:=by rcases kM.o with rfl|rfl|rfl <;>omega
  by_cases g:D<0
  ·rw[ge g]at a
   have c:=F a;clear a
   go_wp2_with(go_at_call 93;refine(J.o _).e ?_)
   go_ret2
   exact⟨by rw[c.o];rfl,rfl⟩
  rw[gc g]at a;obtain⟨M,v⟩:=V (n*b);have hw1:IntKind.i64.wrap (n*b)=M:=by rw[v];exact gS _ M0
  rw[<-v]at a C;clear v;have hw2:IntKind.i64.wrap (M+D)=M+D:=gS _ M0;by_cases hmn:M+D<=4294967296
  ·rw[show min (M+D) 4294967296=M+D by omega]at a
   have c:=F a;clear a
   go_wp2_with(go_at_call 93;refine(J.o _).e ?_)
   go_roundw
   exact⟨k+1,M+D,M0,Oc,by simp;try omega,c.o.symm,M0,M0,by trivial⟩
   exact aa
  rw[show min (M+D) 4294967296=4294967296 by omega]at a;have c:=F a;clear a
  go_wp2_with(go_at_call 93;refine(J.o _).e ?_)
  go_roundw
  exact⟨k+1,4294967296,M0,Oc,by simp;try omega,c.o.symm,M0,M0,by trivial⟩
  exact aa
 obtain rfl:k=N:=M0;have y:l.drop k=[]:=bE (by have:=K.o;omega);have f:=hd.o;rw[y]at f;have c:=fo (some n=R) f;clear f hd;go_wp2_with fail
 go_ret2
 exact⟨by rw[<-c.o];rfl,rfl⟩
theorem mE(l m:O)(w:H):bP prog 83 #[.string (E l),.string (E m)] w (.bool (Lib.hasPrefix l m)):=by
 have h:=Any.strings_HasPrefix laysHP (E l) (E m) w;rw[show(E l).data.toList=l from cW l,show(E m).data.toList=m from cW m]at h;exact h

theorem hp2(c x:UInt8)(t:O)(y:UInt8):Lib.hasPrefix (c::x::t) [48,y]=(decide (c=48)&&decide (x=y)):=by
 have h:∀a b:UInt8,(a==b)=decide (b=a):=λa b=>by
  rw[bX];simp only[beq_iff_eq,gx];exact eq_comm
 show((48==c)&&((y==x)&&true))=_;rw[h,h,nk]
theorem oR(l:O)(h:l.length<2)(y:UInt8):Lib.hasPrefix l [48,y]=false:=by
 match l,h with
 | [],_=>rfl
 | [c],_=>simp[Lib.hasPrefix,List.isPrefixOf]
def YY(l:O)(p q:Bool):Prop:=(∀W,bP prog 83 #[.string (E l),.string ⟨#[48,120]⟩] W (.bool p))/\(∀W,bP prog 83 #[.string (E l),.string ⟨#[48,88]⟩] W (.bool q))
theorem YY.of(l:O):YY l (Lib.hasPrefix l [48,120]) (Lib.hasPrefix l [48,88]):=⟨λW=>mE l [48,120] W,λW=>mE l [48,88] W⟩
theorem Cy(l:O)(w:H)(z:l.length<=1024000000) :
  Calls prog 250 #[.string (E l)] w λe Q=>e=a2V (un 4294967296 l) .i64/\Q=w:=by
 have a:=YY.of l
 match l,z,a with
 | [],z,a =>
  have f:=λW=>iY [] 10 W Oc M0;rw[oR [] Oc,oR [] Oc]at a;have j:=F a.1;have i:=F a.2;clear a;have r:=F f;clear f;obtain⟨s,g⟩:=V (E []);have P:s.size=0:=by rw[g];rfl
  rw[<-g]at r j i⊢;clear g;go_enter func250,ntmps250
  go_wp2_with(first|(go_at_call 83;(with_reducible first|refine(j.o _).m ?_|refine(i.o _).m ?_);rintro e B⟨rfl,d⟩;subst d)|(go_at_call 249;refine(r.o _).e ?_))
  go_ret2
  exact⟨rfl,rfl⟩
 | [c],z,a =>
  have f:=λW=>iY [c] 10 W Oc M0;rw[oR [c] Oc,oR [c] Oc]at a;have j:=F a.1;have i:=F a.2;clear a;rw[gc Oc]at f;obtain⟨R,n⟩:=V (un 4294967296 [c]);rw[show fW 10 4294967296 0 [c]=R from n.symm]at f;rw[<-n];clear n;have r:=F f;clear f;obtain⟨s,g⟩:=V (E [c]);have P:s.size=1:=by rw[g];rfl
  rw[<-g]at r j i⊢;clear g;go_enter func250,ntmps250
  go_wp2_with(first|(go_at_call 83;(with_reducible first|refine(j.o _).m ?_|refine(i.o _).m ?_);rintro e B⟨rfl,d⟩;subst d)|(go_at_call 249;refine(r.o _).e ?_))
  go_ret2
  exact⟨rfl,rfl⟩
 |c::x::t,z,a =>
  rw[hp2,hp2]at a;rw[Js];have hsz0:(E (c::x::t)).size=t.length+2:=by rw[aF];rfl
  have k:∀h,(((E (c::x::t))[0]'h).toNat:Int)=G c:=λh=>rfl
  have hs1:(E (c::x::t)).extract 1 (t.length+2)=E (x::t):=by
   rw[cd];congr 1;simp
  have v:(E (c::x::t)).extract 2 (t.length+2)=E t:=by
   rw[cd];congr 1;simp
  obtain⟨L,J⟩:=V (t.length);rw[<-J]at hsz0 hs1 v;have hLm:L<=1024000000:=by simp at z;omega
  by_cases D:c=48
  ·have U:G c=48:=by rw[D];decide
   rw[U]at k;rw[ge D];rw[show decide (c=48)=true by simpa using D,Ev,Ev]at a;by_cases X:x=120\/x=88
   ·rw[ge X]
    have hp:∃p q,decide (x=120)=p/\decide (x=88)=q/\((p=true/\q=false)\/(p=false/\q=true)):=by
     rcases X with rfl|rfl
     ·exact⟨true,false,rfl,rfl,.inl ⟨rfl,rfl⟩⟩
     exact⟨false,true,rfl,rfl,.inr ⟨rfl,rfl⟩⟩
    obtain⟨p,q,hp1,hp2,K⟩:=hp;rw[hp1,hp2]at a;have f:=λW=>iY t 16 W M0 M0;have j:=F a.1;have i:=F a.2;clear a hp1 hp2 D X;obtain⟨s,g⟩:=V (E (c::x::t));rw[<-g]at hsz0 v j i⊢;clear g k hs1 z;by_cases N:t=[]
    ·subst N
     obtain rfl:L=0:=J;clear f;rcases K with⟨rfl,rfl⟩|⟨rfl,rfl⟩
     all_goals
      go_enter func250,ntmps250
      go_wp2_with(go_at_call 83;(with_reducible first|refine(j.o _).m ?_|refine(i.o _).m ?_);rintro e B⟨rfl,d⟩;subst d)
      go_ret2
      exact⟨rfl,rfl⟩
    rw[gc N]at f;have hL1:L≠0:=λh=>N (az M0);obtain⟨R,n⟩:=V (fW 16 4294967296 0 t);rw[<-n]at f⊢;obtain⟨u,hu⟩:=V (E t);rw[<-hu]at f v;have r:=F f;clear f N n hu J;rcases K with⟨rfl,rfl⟩|⟨rfl,rfl⟩
    all_goals
     go_enter func250,ntmps250
     go_wp2_with(first|(go_at_call 83;(with_reducible first|refine(j.o _).m ?_|refine(i.o _).m ?_);rintro e B⟨rfl,d⟩;subst d)|(go_at_call 249;refine(r.o _).e ?_))
     go_ret2
     exact⟨rfl,rfl⟩
   rw[gc X];rw[show decide (x=120)=false by simpa using λh=>X (.inl h),show decide (x=88)=false by simpa using λh=>X (.inr h)]at a;have f:=λW=>iY (x::t) 8 W (by simp at z⊢;omega) M0;rw[gc Oc]at f;have j:=F a.1;have i:=F a.2;clear a D X;obtain⟨R,n⟩:=V (fW 8 4294967296 0 (x::t));rw[<-n]at f⊢;obtain⟨u,hu⟩:=V (E (x::t));rw[<-hu]at f hs1;obtain⟨s,g⟩:=V (E (c::x::t));have hx0':∀h:0<s.size,((s[0]'h).toNat:Int)=48:=by subst g;exact k
   rw[<-g]at hsz0 hs1 j i⊢;clear g k v z;have M:=hx0' (show 0<s.size by rw[hsz0];exact b1p _);have r:=F f;clear f n hu J hx0';go_enter func250,ntmps250
   go_wp2_with(first|(go_at_call 83;(with_reducible first|refine(j.o _).m ?_|refine(i.o _).m ?_);rintro e B⟨rfl,d⟩;subst d)|(go_at_call 249;refine(r.o _).e ?_))
   go_ret2
   exact⟨rfl,rfl⟩
  have U:G c≠48:=λh=>D (by have:=eX (x:=c) (y:=48) (by rw[h];decide);exact this);rw[gc D];rw[show decide (c=48)=false by simpa using D,Bool.false_and,Bool.false_and]at a;have f:=λW=>iY (c::x::t) 10 W z M0;rw[gc Oc]at f;have j:=F a.1;have i:=F a.2;clear a D;obtain⟨R,n⟩:=V (fW 10 4294967296 0 (c::x::t));rw[<-n]at f⊢;obtain⟨s,g⟩:=V (E (c::x::t));have hx0':∀h:0<s.size,((s[0]'h).toNat:Int)=G c:=by subst g;exact k
  rw[<-g]at hsz0 f j i⊢;clear g k hs1 v z;have M:=hx0' (show 0<s.size by rw[hsz0];exact b1p _);generalize G c=C at U M;have r:=F f;clear f n J hx0';go_enter func250,ntmps250
  go_wp2_with(first|(go_at_call 83;(with_reducible first|refine(j.o _).m ?_|refine(i.o _).m ?_);rintro e B⟨rfl,d⟩;subst d)|(go_at_call 249;refine(r.o _).e ?_))
  go_ret2
  exact⟨rfl,rfl⟩

theorem lT:(prog.info? 9).map (λi=>(i.zero,i.size,i.bytes))=some (some (.string ⟨#[]⟩),1,16):=Rz
def a8s(w:H)(ps:List O):Ending->H->Prop:=λe w'=>∃v,e=.returned v/\Sl w'.heap.size w' v (ps.map S)/\r7 w w'
theorem Wm(w:H)(ps:List O)(a:ps.length<=1024000000):Sl (w.alloc (.cells (Strs ps).toArray 9)).heap.size (w.alloc (.cells (Strs ps).toArray 9)) (.slice (some ⟨w.heap.size,0,none⟩) ps.length ps.length) (ps.map S) :=
 Sl.g9 (Dk w w.heap.size 9 ps (ag _) a)
theorem Sl.pre{B b o n c:Nat}{w:H}{xs:List Z}(h:Sl B w (.slice (some ⟨b,o,none⟩) n c) xs)(e:n=xs.length)(d:n≠0)(k:Nat)(hk:k<=n):Sl B w (.slice (some ⟨b,o,none⟩) k c) (xs.take k):=by
 obtain⟨c',Y,I,h⟩:=h;rcases h with⟨X,_⟩|⟨b',o',U,p,l⟩
 ·rw[X]at e;exact absurd e d
 injection p with a e2 f
 injection a with a
 injection a with g i
 subst g i f;refine⟨c,by rw[aD];omega,I,.inr ⟨b,o,U,?_,λj m=>?_⟩⟩
 ·rw[aD,xB M0]
 rw[aD]at m;rw[l j M0];simp
theorem last_at{α:Type}{l:List α}{K:Nat}(h:l.length=K+1):l.getLast? = some (l[K]' M0):=by
 rw[List.getLast?_eq_getElem?,show l.length-1=K by omega];exact aG M0
theorem yO(l:O)(w:H)(hl:l.length<=102400000)(Q:Env w):Calls prog 248 #[.string (E l)] w (a8s w (eQ l)):=by
 have d:=zc l w Q M0;rw[p6,<-BT]at d;have hlen:=uZ 46 l;obtain⟨ps,j⟩:=V (ic 46 l);have y:eQ l=if 1<ps.length/\ps.getLast? = some []then ps.dropLast else ps:=by unfold eQ;rw[j]
 have x:ps ≠ []:=by obtain⟨p,q,h⟩:=jV 46 l;rw[j,h];simp
 rw[y];rw[<-j]at d hlen;clear y j;obtain⟨K,hK⟩:∃K,ps.length=K+1:=⟨ps.length-1,by have:=eo.mpr x;omega⟩;have v:=last_at hK;have hKm:K<=102400000:=M0;have i:=Wm w ps M0;have hbel:Below w.heap.size w (w.alloc (.cells (Strs ps).toArray 9)):=(gT _ w).alloc (ag _) _;rw[hK]at d i;obtain⟨b,o,t,_,hcell⟩:=gO i K M0;obtain⟨rfl,rfl⟩:b=w.heap.size/\o=0:=by injection t with h;injection h with Y I;exact⟨Y.symm,I.symm⟩
 rw[bM]at hcell;rw[v];obtain⟨q,R⟩:=V (ps[K]' M0);rw[<-R]at hcell⊢;obtain⟨B,z⟩:=V (w.alloc (.cells (Strs ps).toArray 9));rw[<-z]at d i hbel hcell;obtain⟨s,T⟩:=V (E l);rw[<-T]at d⊢;obtain⟨g,C⟩:=V (w.heap.size);rw[<-C]at d i hbel hcell;have hbel0:∃g0,g=g0/\g0=w.heap.size:=⟨g,rfl,C⟩;have HG:=F hbel0;clear hbel0;have D:=F d;clear d;have f:=F i;clear i;have J:=fo (Below w.heap.size w B) (C▸hbel);clear hbel;clear T z v x hlen t Q C;clear R;obtain⟨N,M⟩:=V (K+1);have P:IntKind.i64.wrap (((K+1:Nat):Int)-1)=(K:Int):=by rw[gS _ M0];omega
 rw[<-M]at D P;have hKN:K<N:=M0;have n:=F M;clear M;by_cases Y:1<N
 ·by_cases c:q=[]
  ·have he:(E q).toList.isEmpty=true:=by rw[aB,c];rfl
   have k:(E q).toList=[]:=by rw[aB,c]
   rw[ge ⟨by have:=n.o;omega,by rw[c]⟩]
   have hfin:Sl B.heap.size B (.slice (some ⟨g,0,none⟩) K N) (ps.dropLast.map S):=by
    have:=f.o.pre (by rw[ay,hK]) M0 K M0;rw[iN,hK,Nat.add_sub_cancel,a6r,n.o];exact this
   have L:=F hfin;clear hfin;replace hcell:B.cell? ⟨g,K,none⟩=some (.string (E q)):=hcell;generalize E q=u at hcell he k;clear c hK f;go_enter func248,ntmps248;go_wp2_with fail;refine(D.o).e ?_;go_wp2_with fail;go_ret;exact⟨_,rfl,L.o,J.o⟩
  have he:(E q).toList.isEmpty=false:=by rw[aB];simpa using c
  have k:¬(E q).toList=[]:=by rw[aB];exact c
  rw[gc (λa=>c (by have:=a.2;injection this))];have r:=F f.o;rw[<-n.o]at r;replace hcell:B.cell? ⟨g,K,none⟩=some (.string (E q)):=hcell;generalize E q=u at hcell he k;clear c hK f;go_enter func248,ntmps248;go_wp2_with fail;refine(D.o).e ?_;go_wp2_with fail;go_ret;exact⟨_,rfl,r.o,J.o⟩
 rw[gc (λa=>Y (by have:=n.o;omega))];have r:=F f.o;rw[<-n.o]at r;clear hK f hcell;go_enter func248,ntmps248;go_wp2_with fail;refine(D.o).e ?_;go_wp2_with fail;go_ret;exact⟨_,rfl,r.o,J.o⟩

theorem tC{l p:O}(h:p∈eQ l):p.length<=l.length:=(mq 46 l p (LV h)).1
theorem OY(l:O)(w:H)(hl:l.length<=102400000)(hE:Env w):bF prog 239 #[.string (E l)] w (.bool (yo l)):=by
 have n:=yO l w hl hE;have x:=λp (h:p∈eQ l)=>tC h;have D:=yP l;have y:yo l=Jk ((eQ l).getLast (lQ l)):=rfl;have C:=lQ l;rw[y];clear y;have z:∀(ps:List O) (h:ps ≠ []) (K:Nat) (hK:ps.length=K+1),ps.getLast h=ps[K]' M0:=λps h K hK=>by rw[c2F];congr 1;omega
 obtain⟨K,hK⟩:∃K,(eQ l).length=K+1:=⟨(eQ l).length-1,by have:=eo.mpr C;omega⟩;obtain⟨q,r⟩:=V ((eQ l).getLast (lQ l));have g:=r;rw[z _ _ K hK]at g;rw[<-r];clear r;generalize eQ l=ps at n x D C hK g;have hq:q.length<=l.length:=by rw[g];exact x _ (be _)
 have hKm:K<=102400000:=M0;have hd:=λW=>iY q 10 W M0 M0;have Q:=λW=>Cy q W M0
 have B:Jk q=((if q=[]then none else fW 10 4294967296 0 q).isSome||(un 4294967296 q).isSome):=by
  unfold Jk;by_cases h:q=[]
  ·subst h;rfl
  rw[gc h,Bool.or_comm]
  congr 1
  cases fW 10 4294967296 0 q <;>simp[h]
 rw[B];clear B x D z;generalize (if q=[]then none else fW 10 4294967296 0 q)=o1 at hd;generalize un 4294967296 q=o2 at Q
 have t:∀(j:H) (v:Z),Sl j.heap.size j v (ps.map S)->∃b o c,v=.slice (some ⟨b,o,none⟩) (K+1) c/\j.cell? ⟨b,o+K,none⟩=some (.string (E q)):=by
  intro j v h;obtain⟨a,c,rfl⟩:=cQ h;rw[ay,hK]at h⊢;obtain⟨b,o,rfl,_,P⟩:=gO h K M0;exact⟨b,o,c,rfl,by rw[g];exact P⟩
 obtain⟨N,hN⟩:=V (K+1);have R:IntKind.i64.wrap (((K+1:Nat):Int)-1)=(K:Int):=by rw[gS _ M0];omega
 rw[<-hN]at t R;have hKN:K<N:=M0;have k:=F t;clear t;have L:=F hd;clear hd;have T:=F Q;clear Q;have M:=F n;clear n;obtain⟨s,hs⟩:=V (E l);rw[<-hs]at M⊢;generalize E q=u at k L T;clear hs g hK hN hq;cases o1 with
 |some d =>
  go_enter func239,ntmps239;go_wp2_with fail;refine(M.o).m ?_;rintro e j⟨v,rfl,J,f⟩;obtain⟨b,o,c,rfl,P⟩:=k.o j v J;have HB:=F f;clear f J
  go_wp2_with(go_at_call 249;refine(L.o _).e ?_)
  go_ret;exact⟨rfl,HB.o⟩
 |none =>
  rw[Option.isSome_none,Bool.false_or];go_enter func239,ntmps239;go_wp2_with fail;refine(M.o).m ?_;rintro e j⟨v,rfl,J,f⟩;obtain⟨b,o,c,rfl,P⟩:=k.o j v J;have HB:=F f;clear f J
  go_wp2_with(first|(go_at_call 249;refine(L.o _).e ?_)|(go_at_call 250;refine(T.o _).e ?_))
  go_ret;exact⟨rfl,HB.o⟩
theorem Zy{C:Int}{i:Nat}{s:Int}{k:Nat}(h:k+1=ps.length):sj C i s (ps.drop k)=match un C (ps[k]' M0)with|none=>none|some n=>if room i<=n then none else some (s+n):=by
 rw[aC M0,dG M0];rfl
theorem UO{C:Int}{i:Nat}{s:Int}{k:Nat}(h:k+1<ps.length):sj C i s (ps.drop k)=match un C (ps[k]' M0)with|none=>none|some n=>if 255<n then none else sj C (i+1) (s+n*room (i+1)) (ps.drop (k+1)):=by
 rw[aC (show k<ps.length by omega),aC h];rfl
abbrev a8t(o:Option Int):Ending:=.returned (.tuple #[.int .u32 (o.getD 0),.bool o.isSome])
theorem FL(l:O)(w:H)(hl:l.length<=102400000)(hE:Env w):Calls prog 240 #[.string (E l)] w λe w'=>e=a8t (nZ l)/\r7 w w':=by
 have B:=yO l w hl hE;have T:=λp (h:p∈eQ l)=>tC h;have P:=yP l;have z:=lQ l;unfold nZ fpF;have Q:∀v,(eQ l).length<=4->sj 4294967296 0 0 (eQ l)=some v->0<=v/\v<4294967296:=λv h I=>vx _ 0 0 v z M0 M0 P8 I;generalize eQ l=ps at B T P z Q;obtain⟨N,hN⟩:=V (ps.length);have hN0:N≠0:=λh=>z (az M0)
 have hsl:∀(x:H) (v:Z),Sl x.heap.size x v (ps.map S)->∃b o c,v=.slice (some ⟨b,o,none⟩) N c/\b<x.heap.size/\∀k (hk:k<ps.length),x.cell? ⟨b,o+k,none⟩=some (.string (E ps[k])):=by
  intro x v h;obtain⟨a,c,rfl⟩:=cQ h;rw[ay,<-hN]at h;obtain⟨b,o,rfl,U,hc⟩:=gO h 0 M0;refine⟨b,o,c,by rw[ay,<-hN],U,λk hk=>?_⟩;obtain⟨b',o',he,_,hc'⟩:=gO h k hk;injection he with he;injection he with e1 e2
  rw[e1,e2];exact hc'
 generalize E l=s at B⊢;clear hE;have HSL:=F hsl;clear hsl;have MX:=F B;clear B;have YF:=F T;clear T;have HL:=F hl;clear hl;have EE:=F Q;clear Q;rw[<-hN]at P⊢;have oP:N<=1024000000:=by have:=HL.o;omega
 clear P z;by_cases h4:4<N
 ·rw[ge h4]
  clear hN;go_enter func240,ntmps240;go_wp2_with fail;refine(MX.o).m ?_;rintro e x⟨v,rfl,hv,t⟩;obtain⟨b,o,c,rfl,U,hc⟩:=HSL.o x v hv;have HB:=F t;clear t hv hc;go_wp2_with fail
  go_ret2
  exact⟨rfl,HB.o⟩
 rw[gc h4];have HN:=F hN;clear hN;obtain⟨R,hR⟩:=V (sj 4294967296 0 0 ps);rw[<-hR];have hrr:∀v,R=some v->0<=v/\v<4294967296:=λv h=>EE.o v (by rw[<-HN.o];omega) (by rw[<-hR];exact h);have HR:=F hR;clear hR;have HRR:=F hrr;clear hrr EE;go_enter func240,ntmps240;go_wp2_with fail;refine(MX.o).m ?_;rintro e x⟨v,rfl,hv,t⟩;obtain⟨b,o,c,rfl,U,hc⟩:=HSL.o x v hv;have HB:=F t;clear t hv;have HC:=F hc;clear hc;go_wp2_with fail
 go_loopw [5,17] (λsv iv wr=>∃(k:Nat) (n:Int),k<=N/\iv=.int .i64 k/\sv=.int .i64 n/\Hid (sj 4294967296 k n (ps.drop k)=R)/\0<=n/\n<=4294967296/\(k<N->n+room k<=4294967296)/\x=wr) (λ_ i _=>N-(intOf i).toNat)
 exact⟨0,0,M0,Oc,Oc,HR.o.symm,M0,M0,λ_=>P8,rfl⟩
 obtain⟨k,n,hk,rfl,rfl,hf,hn0,hn1,r,rfl⟩:=hrel;by_cases hlt:k<N
 ·have M:k<ps.length:=by have:=HN.o;omega
  have hcell:=HC.o k M;have q:=λW=>Cy ps[k] W (by have:=YF.o ps[k] (be M);have:=HL.o;omega);have j:=λv h=>Gy (C:=4294967296) P8 (s:=ps[k]'M) (v:=v) h;have d:=hf.o;by_cases hlast:k+1=N
  ·rw[Zy (by have:=HN.o;omega)]at d
   generalize un 4294967296 ps[k]=O' at q j d;generalize E ps[k]=u at hcell q;have J:=F q;clear q hf;cases O' with
   |none =>
    have g:=fo (none=R) d;clear d j;have hw1:IntKind.i64.wrap ((N:Int)-1)=(k:Int):=by rw[gS _ M0];omega
    go_wp2_with(go_at_call 250;refine(J.o _).e ?_)
    go_ret2
    exact⟨by rw[<-g.o];rfl,HB.o⟩
   |some m =>
    have hm:=j m rfl;have g:=F (show(if room k<=m then none else some (n+m))=R from d);clear d j;have hw1:IntKind.i64.wrap ((N:Int)-1)=(k:Int):=by rw[gS _ M0];omega
    have y:k=0\/k=1\/k=2\/k=3:=M0;have CN:=r hlt;have hws:IntKind.i64.wrap (n+m)=n+m:=gS _ M0;by_cases D:room k<=m
    ·rw[ge D]at g
     clear r CN;have W5:=F hlast;clear hlast;rcases y with rfl|rfl|rfl|rfl
     all_goals
      simp only[room]at D
      try simp only[dH]at hcell
      go_wp2_with(go_at_call 250;refine(J.o _).e ?_)
      go_ret2
      exact⟨by rw[<-g.o];rfl,HB.o⟩
    rw[gc D]at g;have hs2:n+m<=4294967296:=M0;have HR2:=F (show sj 4294967296 (k+1) (n+m) (ps.drop (k+1))=R by rw[dG (by have:=HN.o;omega)];exact g.o);have hkn:¬k+1<N:=M0;clear r CN;have W5:=F hlast;clear hlast;have HKN:=F hkn;clear hkn;rcases y with rfl|rfl|rfl|rfl
    all_goals
     simp only[room]at D
     try simp only[dH]at hcell
     go_wp2_with(go_at_call 250;refine(J.o _).e ?_)
     go_roundw
     exact⟨_,n+m,(by have:=W5.o;omega),r5,r5,HR2.o,M0,M0,λh=>absurd h HKN.o,by trivial⟩
     exact aa
  rw[UO (by have:=HN.o;omega)]at d;generalize un 4294967296 ps[k]=O' at q j d;generalize E ps[k]=u at hcell q;have J:=F q;clear q hf;have hw1:IntKind.i64.wrap ((N:Int)-1)=(N:Int)-1:=by rw[gS _ M0]
  have hnl:¬(k:Int)=(N:Int)-1:=M0;cases O' with
  |none =>
   have g:=fo (none=R) d;clear d j
   go_wp2_with(go_at_call 250;refine(J.o _).e ?_)
   go_ret2
   exact⟨by rw[<-g.o];rfl,HB.o⟩
  |some m =>
   have hm:=j m rfl;have g:=F (show(if 255<m then none else sj 4294967296 (k+1) (n+m*room (k+1)) (ps.drop (k+1)))=R from d);clear d j;by_cases XK:255<m
   ·rw[ge XK]at g
    go_wp2_with(go_at_call 250;refine(J.o _).e ?_)
    go_ret2
    exact⟨by rw[<-g.o];rfl,HB.o⟩
   rw[gc XK]at g;have y:k=0\/k=1\/k=2:=M0;have CN:=r hlt;clear r;rcases y with rfl|rfl|rfl
   ·simp only[room]at g CN
    try simp only[dH]at hcell
    have Z7:IntKind.i64.wrap (m*16777216)=m*16777216:=gS _ M0;have hws:IntKind.i64.wrap (n+m*16777216)=n+m*16777216:=gS _ M0
    go_wp2_with(go_at_call 250;refine(J.o _).e ?_)
    have K:n+m*16777216<=4294967296/\(1<N->n+m*16777216+room (1)<=4294967296):=⟨M0,λ_=>by show _+_+16777216<=_;omega⟩;go_roundw
    exact⟨1,n+m*16777216,M0,r5,r5,g.o,M0,K.1,K.2,by trivial⟩
    exact aa
   ·simp only[room]at g CN
    try simp only[dH]at hcell
    have Z7:IntKind.i64.wrap (m*65536)=m*65536:=gS _ M0;have hws:IntKind.i64.wrap (n+m*65536)=n+m*65536:=gS _ M0
    go_wp2_with(go_at_call 250;refine(J.o _).e ?_)
    have K:n+m*65536<=4294967296/\(2<N->n+m*65536+room (2)<=4294967296):=⟨M0,λ_=>by show _+_+65536<=_;omega⟩;go_roundw
    exact⟨2,n+m*65536,M0,r5,r5,g.o,M0,K.1,K.2,by trivial⟩
    exact aa
   simp only[room]at g CN
   try simp only[dH]at hcell
   have Z7:IntKind.i64.wrap (m*256)=m*256:=gS _ M0;have hws:IntKind.i64.wrap (n+m*256)=n+m*256:=gS _ M0
   go_wp2_with(go_at_call 250;refine(J.o _).e ?_)
   have K:n+m*256<=4294967296/\(3<N->n+m*256+room (3)<=4294967296):=⟨M0,λ_=>by show _+_+256<=_;omega⟩;go_roundw
   exact⟨3,n+m*256,M0,r5,r5,g.o,M0,K.1,K.2,by trivial⟩
   exact aa
 obtain rfl:k=N:=M0;have d:=hf.o;rw[dG (by have:=HN.o;omega)]at d;have L:some n=R:=d;have hnr:=HRR.o n L.symm;have hwr:IntKind.u32.wrap n=n:=by rw[IntKind.wrap_u32];omega
 have g:=F L;clear hf d L;clear r;go_wp2_with fail
 go_ret2
 exact⟨by rw[<-g.o];rfl,HB.o⟩

theorem jg(o:List O)(p:O):Strs (o++[p])=Strs o++[.string (E p)]:=Oc
