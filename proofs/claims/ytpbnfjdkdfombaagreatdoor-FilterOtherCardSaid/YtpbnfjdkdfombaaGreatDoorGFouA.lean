/- Joined texts. -/
import Derived.Test.YtpbnfjdkdfombaaGreatDoorGIdnI
import Derived.Test.YtpbnfjdkdfombaaGreatDoorGNumB
set_option maxHeartbeats 40000000
namespace Go.Proofs.YtpbnfjdkdfombaaGreatDoor
open Tryz
open Go.RowKit
set_option maxRecDepth 10000
def ep(c:UInt8):O->List O
 | []=>[[]]
 |x::r=>if x=c then []::ep c r else match ep c r with | []=>[[x]]|p::ps=>(x::p)::ps
theorem nS(c:UInt8)(r:O):ep c (c::r)=[]::ep c r:=by rw[ep,if_pos rfl]
theorem jV(c:UInt8):∀ t,∃p ps,ep c t=p::ps
 | []=>⟨_,_,rfl⟩
 |x::r=>by
  unfold ep
  split
  ·exact⟨_,_,rfl⟩
  obtain⟨p,ps,h⟩:=jV c r;rw[h];exact⟨_,_,rfl⟩
theorem kx{c x:UInt8}{r p:O}{ps:List O}(h:x≠c)(hr:ep c r=p::ps):ep c (x::r)=(x::p)::ps:=by
 rw[ep,if_neg h,hr]
theorem uY(c:UInt8):∀ a b:O,ep c (a++c::b)=ep c a++ep c b
 | [],b=>by rw[dg,nS];rfl
 |x::r,b=>by
  have ih:=uY c r b;obtain⟨p,ps,h⟩:=jV c r;by_cases X:x=c
  ·subst X
   rw[dE,nS,nS,ih];rfl
  rw[h]at ih;rw[dE,kx X ih,kx X h];rfl
theorem oL{c:UInt8}{p:O}(h:c∉p):ep c p=[p]:=by
 induction p with
 |nil=>rfl
 |cons x r ih =>
  have X:x≠c:=λI=>h (by simp[I]);exact kx X (ih (λI=>h (by simp[I])))
theorem BT:∀ t:O,ep 46 t=mr t
 | []=>rfl
 |x::r=>by rw[ep,mr,BT r];rfl
theorem uZ(c:UInt8):∀ t:O,(ep c t).length<=t.length+1
 | []=>by simp[ep]
 |x::r=>by
  have ih:=uZ c r;obtain⟨p,ps,h⟩:=jV c r;rw[h]at ih;by_cases X:x=c
  ·subst X;rw[nS,h];simp at ih ⊢;omega
  rw[kx X h];simp at ih ⊢;omega
theorem mq(c:UInt8):∀ (t p:O),p∈ep c t->p.length<=t.length/\c∉p/\∀ x∈p,x∈t
 | [],p,h=>by simp[ep]at h;subst h;simp
 |x::r,p,h=>by
  obtain⟨q,qs,hq⟩:=jV c r;by_cases X:x=c
  ·subst X
   rw[nS]at h;rcases aK.mp h with rfl|h
   ·simp
   obtain⟨Y,I,h3⟩:=mq x r p h;exact⟨by simp;omega,I,λy hy=>cN _ (h3 y hy)⟩
  rw[kx X hq]at h;rcases aK.mp h with rfl|h
  ·obtain⟨Y,I,h3⟩:=mq c r q (by rw[hq];simp)
   refine⟨by simp;omega,?_,?_⟩
   ·intro hm
    rcases aK.mp hm with e|hm
    ·exact X e.symm
    exact I hm
   intro y hy;rcases aK.mp hy with rfl|hy
   ·simp
   exact cN _ (h3 y hy)
  obtain⟨Y,I,h3⟩:=mq c r p (by rw[hq];exact cN _ h);exact⟨by simp;omega,I,λy hy=>cN _ (h3 y hy)⟩
def fW(b C:Int):Int->O->Option Int
 |n,[]=>some n
 |n,c::t=>if fg (G c) b<0 then none else fW b C (min (n*b+fg (G c) b) C) t
def p5(C:Int):O->Option Int
 | []=>none
 | [c]=>fW 10 C 0 [c]
 |c::x::t=>if c=48 then(if x=120\/x=88 then fW 16 C 0 t else fW 8 C 0 (x::t))else fW 10 C 0 (c::x::t)
theorem Js(C:Int)(c x:UInt8)(t:O):p5 C (c::x::t)=if c=48 then(if x=120\/x=88 then fW 16 C 0 t else fW 8 C 0 (x::t))else fW 10 C 0 (c::x::t):=rfl
theorem a1a(b C:Int)(U:0<=b)(hC:0<=C):∀ (l:O) (n v:Int),0<=n->n<=C->fW b C n l=some v->0<=v/\v<=C
 | [],n,v,h,I,e=>by unfold fW at e;injection e with e;subst e;exact⟨h,I⟩
 |c::t,n,v,h,_,e=>by
  unfold fW at e
  split at e
  ·cases e
  next hd =>
  have:=eh h U;exact a1a b C U hC t _ v M0 M0 e
theorem Gy{C:Int}(hC:0<=C){s:O}{v:Int}(h:p5 C s=some v):0<=v/\v<=C:=by
 match s,h with
 | [],h=>cases h
 | [c],h=>exact a1a 10 C M0 hC _ 0 v M0 hC h
 |c::x::t,h =>
  rw[Js]at h
  split at h
  ·split at h
   ·exact a1a 16 C M0 hC _ 0 v M0 hC h
   exact a1a 8 C M0 hC _ 0 v M0 hC h
  exact a1a 10 C M0 hC _ 0 v M0 hC h
def eQ(s:O):List O:=if 1<(ep 46 s).length/\(ep 46 s).getLast? = some []then(ep 46 s).dropLast else ep 46 s
theorem lQ(s:O):eQ s ≠ []:=by
 obtain⟨p,ps,h⟩:=jV 46 s;unfold eQ;rw[h]
 split
 ·next hc =>
  intro e;have:((p::ps).dropLast).length=0:=by rw[e];rfl
  rw[fY]at this;omega
 simp
theorem LV{s p:O}(h:p∈eQ s):p∈ep 46 s:=by
 unfold eQ at h
 split at h
 ·exact nI _ h
 exact h
theorem yP(s:O):(eQ s).length<=s.length+1:=by
 have:=uZ 46 s;unfold eQ
 split
 ·rw[fY];omega
 exact this
def Jk(t:O):Bool:=(p5 4294967296 t).isSome||decide (t ≠ []/\(fW 10 4294967296 0 t).isSome=true)
def yo(s:O):Bool:=Jk ((eQ s).getLast (lQ s))
def room:Nat->Int|0=>4294967296|1=>16777216|2=>65536|3=>256|_=>1
def sj(C:Int):Nat->Int->List O->Option Int
 |_,s,[]=>some s
 |i,s,[p]=>match p5 C p with|none=>none|some n=>if room i<=n then none else some (s+n)
 |i,s,p::q::t=>match p5 C p with|none=>none|some n=>if 255<n then none else sj C (i+1) (s+n*room (i+1)) (q::t)
def fpF(ps:List O):Option Int:=if 4<ps.length then none else sj 4294967296 0 0 ps
def nZ(s:O):Option Int:=fpF (eQ s)
theorem room_le(i:Nat):1<=room i/\room i<=4294967296:=by unfold room;split <;>decide
theorem Md{i:Nat}(h:i<4):256*room (i+1)=room i:=by
 match i,h with
 |0,_=>decide
 |1,_=>decide
 |2,_=>decide
 |3,_=>decide
theorem vx:∀ (ps:List O) (i:Nat) (s v:Int),ps ≠ []->i+ps.length<=4->0<=s->s+room i<=4294967296->sj 4294967296 i s ps=some v->0<=v/\v<4294967296
 | [],_,_,_,h,_,_,_,_=>absurd rfl h
 | [p],i,s,v,_,_,h0,Y,e=>by
  unfold sj at e;cases h:p5 4294967296 p with
  |none=>rw[h]at e;cases e
  |some n =>
   rw[h]at e;have hn:=Gy P8 h;dsimp only at e
   split at e
   ·cases e
   injection e with e;omega
 |p::q::t,i,s,v,_,hl,h0,Y,e=>by
  unfold sj at e;cases h:p5 4294967296 p with
  |none=>rw[h]at e;cases e
  |some n =>
   rw[h]at e;have hn:=Gy P8 h;dsimp only at e
   split at e
   ·cases e
   next hc =>
   have hi:i<4:=by simp at hl;omega
   have hs:=Md hi;have hr:=room_le (i+1);have hm:0<=n*room (i+1):=eh hn.1 M0;have hm2:n*room (i+1)<=255*room (i+1):=eK M0 M0;exact vx (q::t) (i+1) _ v Oc (by simp at hl ⊢;omega) M0 M0 e
theorem Aa{s:O}{v:Int}(h:nZ s=some v):0<=v/\v<4294967296:=by
 unfold nZ fpF at h
 split at h
 ·cases h
 next hc=>exact vx _ 0 0 v (lQ s) M0 M0 P8 h

abbrev a2V(o:Option Int)(k:IntKind):Ending:=.returned (.tuple #[.int k (o.getD 0),.bool o.isSome])
theorem OG(b C n:Int){l:O}{k:Nat}(h:k<l.length):fW b C n (l.drop k)=if fg (G l[k]) b<0 then none else fW b C (min (n*b+fg (G l[k]) b) C) (l.drop (k+1)):=by
 rw[aC h];rfl
theorem iY(l:O)(b:Int)(w:H)(hl:l.length<=1024000000)(U:b=8\/b=10\/b=16) :
  Calls prog 233 #[.string (E l),.int .i64 b] w λe w'=>e=a2V (if l=[]then none else fW b 4294967296 0 l) .i64/\w'=w:=by
 obtain⟨R,hR⟩:=V (fW b 4294967296 0 l);rw[<-hR];have HR:=F hR;clear hR;obtain⟨s,hs⟩:=V (E l);have hsz:s.size=l.length:=by rw[hs,aF]
 have hby:∀ k (hk:k<s.size) (hk2:k<l.length),((s[k]'hk).toNat:Int)=G l[k]:=λk hk hk2=>cy hs hk hk2;have hemp:(s.toList=[]) ↔ l=[]:=by rw[hs,aB]
 rw[<-hs];clear hs;obtain⟨N,hN⟩:=V (s.size);have iP:s.size=N:=hN.symm;have oP:N<=1024000000:=M0;have iV:=F hby;clear hby;have eM:=F hsz;clear hsz hl hN;have hb2:0<=b/\b<=16:=M0;by_cases hnil:l=[]
 ·rw[if_pos hnil]
  have he:=hemp.mpr hnil;have he1:s.toList.isEmpty=true:=by simpa using he
  clear hemp;go_enter func233,ntmps233;go_wp2_with fail
  go_ret2
  exact⟨rfl,rfl⟩
 rw[if_neg hnil];have he:¬ s.toList=[]:=λh=>hnil (hemp.mp h);have he1:s.toList.isEmpty=false:=by simpa using he
 clear hemp;have Yy:=F hnil;clear hnil;have kM:=F U;clear U;go_enter func233,ntmps233;go_wp2_with fail
 go_loopw [6,13] (λnv iv wr=>∃ (k:Nat) (n:Int),k<=N/\iv=.int .i64 k/\nv=.int .i64 n/\Hid (fW b 4294967296 n (l.drop k)=R)/\0<=n/\n<=4294967296/\w=wr) (λ_ i _=>N-(intOf i).toNat)
 case atStart=>exact⟨0,0,M0,Oc,Oc,HR.o.symm,M0,M0,rfl⟩
 case round =>
  obtain⟨k,n,hk,rfl,rfl,hd,hn0,hn1,rfl⟩:=hrel;by_cases hlt:k<N
  ·have mf:k<s.size:=by omega
   have hkl:k<l.length:=by have:=eM.o;omega
   have X:=iV.o k mf hkl;have hst:=OG b 4294967296 n hkl;rw[hd.o]at hst;have hr:=jL l[k];have hda:=λW=>dm (G l[k]) b W hr M0
   have hlo:-1<=fg (G l[k]) b/\fg (G l[k]) b<36:=by
    unfold fg;simp only
    split <;>(try split) <;>(try split) <;>(try split) <;>omega
   obtain⟨D,hD⟩:=V (fg (G l[k]) b);rw[<-hD]at hst hda hlo;clear hD;generalize G l[k]=X' at X hr hda;have rN:=F hda;clear hda hd;have hnb:0<=n*b/\n*b<=68719476736:=by rcases kM.o with rfl|rfl|rfl <;>omega
   by_cases hD0:D<0
   ·rw[if_pos hD0]at hst
    have HST:=F hst;clear hst
    go_wp2_with (first|(go_at_call 90;refine(rN.o _).m ?_;rintro e w2 ⟨rfl,rfl⟩))
    go_ret2
    exact⟨by rw[HST.o];rfl,rfl⟩
   rw[if_neg hD0]at hst;obtain⟨M,hM⟩:=V (n*b);have hw1:IntKind.i64.wrap (n*b)=M:=by rw[hM];exact IntWalk.i64_in _ M0
   rw[<-hM]at hst hnb;clear hM;have hw2:IntKind.i64.wrap (M+D)=M+D:=IntWalk.i64_in _ M0;by_cases hmn:M+D<=4294967296
   ·rw[show min (M+D) 4294967296=M+D by omega]at hst
    have HST:=F hst;clear hst
    go_wp2_with (first|(go_at_call 90;refine(rN.o _).m ?_;rintro e w2 ⟨rfl,rfl⟩))
    go_roundw
    case rel=>exact⟨k+1,M+D,M0,Oc,by simp;try omega,HST.o.symm,M0,M0,by trivial⟩
    case measure=>simp[intOf];omega
   rw[show min (M+D) 4294967296=4294967296 by omega]at hst;have HST:=F hst;clear hst
   go_wp2_with (first|(go_at_call 90;refine(rN.o _).m ?_;rintro e w2 ⟨rfl,rfl⟩))
   go_roundw
   case rel=>exact⟨k+1,4294967296,M0,Oc,by simp;try omega,HST.o.symm,M0,M0,by trivial⟩
   case measure=>simp[intOf];omega
  obtain rfl:k=N:=M0;have hdr:l.drop k=[]:=bE (by have:=eM.o;omega);have hd1:=hd.o;rw[hdr]at hd1;have HST:=F (show some n=R from hd1);clear hd1 hd;go_wp2_with fail
  go_ret2
  exact⟨by rw[<-HST.o];rfl,rfl⟩
theorem mE(l m:O)(w:H):bP prog 61 #[.string (E l),.string (E m)] w (.bool (Lib.hasPrefix l m)):=by
 have h:=Any.strings_HasPrefix laysHP (E l) (E m) w;rw[show(E l).data.toList=l from cW l,show(E m).data.toList=m from cW m]at h;exact h

theorem hp2(c x:UInt8)(t:O)(y:UInt8):Lib.hasPrefix (c::x::t) [48,y]=(decide (c=48)&&decide (x=y)):=by
 have h:∀ a b:UInt8,(a==b)=decide (b=a):=λa b=>by
  rw[bX];simp only[beq_iff_eq,decide_eq_true_eq];exact eq_comm
 show((48==c)&&((y==x)&&true))=_;rw[h,h,nk]
theorem oR(l:O)(h:l.length<2)(y:UInt8):Lib.hasPrefix l [48,y]=false:=by
 match l,h with
 | [],_=>rfl
 | [c],_=>simp[Lib.hasPrefix,List.isPrefixOf]
def YY(l:O)(p q:Bool):Prop:=(∀W,bP prog 61 #[.string (E l),.string ⟨#[48,120]⟩] W (.bool p))/\(∀W,bP prog 61 #[.string (E l),.string ⟨#[48,88]⟩] W (.bool q))
theorem YY.of(l:O):YY l (Lib.hasPrefix l [48,120]) (Lib.hasPrefix l [48,88]):=⟨λW=>mE l [48,120] W,λW=>mE l [48,88] W⟩
theorem Cy(l:O)(w:H)(hl:l.length<=1024000000) :
  Calls prog 234 #[.string (E l)] w λe w'=>e=a2V (p5 4294967296 l) .i64/\w'=w:=by
 have hnc:=YY.of l
 match l,hl,hnc with
 | [],hl,hnc =>
  have hz:=λW=>iY [] 10 W Oc M0;rw[oR [] Oc,oR [] Oc]at hnc;have xO:=F hnc.1;have Bv:=F hnc.2;clear hnc;have HZ:=F hz;clear hz;obtain⟨s,hs⟩:=V (E []);have hsz:s.size=0:=by rw[hs];rfl
  rw[<-hs]at HZ xO Bv ⊢;clear hs;go_enter func234,ntmps234
  go_wp2_with (first
   |(go_at_call 61;(with_reducible first|refine(xO.o _).m ?_|refine(Bv.o _).m ?_);rintro e w2 ⟨rfl,hw2⟩;subst hw2)
   |(go_at_call 233;refine(HZ.o _).m ?_;rintro e w2 ⟨rfl,hw2⟩;subst hw2))
  go_ret2
  exact⟨rfl,rfl⟩
 | [c],hl,hnc =>
  have hz:=λW=>iY [c] 10 W Oc M0;rw[oR [c] Oc,oR [c] Oc]at hnc;have xO:=F hnc.1;have Bv:=F hnc.2;clear hnc;rw[if_neg Oc]at hz;obtain⟨R,hR⟩:=V (p5 4294967296 [c]);rw[show fW 10 4294967296 0 [c]=R from hR.symm]at hz;rw[<-hR];clear hR;have HZ:=F hz;clear hz;obtain⟨s,hs⟩:=V (E [c]);have hsz:s.size=1:=by rw[hs];rfl
  rw[<-hs]at HZ xO Bv ⊢;clear hs;go_enter func234,ntmps234
  go_wp2_with (first
   |(go_at_call 61;(with_reducible first|refine(xO.o _).m ?_|refine(Bv.o _).m ?_);rintro e w2 ⟨rfl,hw2⟩;subst hw2)
   |(go_at_call 233;refine(HZ.o _).m ?_;rintro e w2 ⟨rfl,hw2⟩;subst hw2))
  go_ret2
  exact⟨rfl,rfl⟩
 |c::x::t,hl,hnc =>
  rw[hp2,hp2]at hnc;rw[Js];have hsz0:(E (c::x::t)).size=t.length+2:=by rw[aF];rfl
  have hx0:∀ h,(((E (c::x::t))[0]'h).toNat:Int)=G c:=λh=>rfl
  have hs1:(E (c::x::t)).extract 1 (t.length+2)=E (x::t):=by
   rw[cd];congr 1;simp
  have hs2:(E (c::x::t)).extract 2 (t.length+2)=E t:=by
   rw[cd];congr 1;simp
  obtain⟨L,hL⟩:=V (t.length);rw[<-hL]at hsz0 hs1 hs2;have hLm:L<=1024000000:=by simp at hl;omega
  by_cases hc:c=48
  ·have U:G c=48:=by rw[hc];decide
   rw[U]at hx0;rw[if_pos hc];rw[show decide (c=48)=true by simpa using hc,Ev,Ev]at hnc;by_cases X:x=120\/x=88
   ·rw[if_pos X]
    have hp:∃ p q,decide (x=120)=p/\decide (x=88)=q/\((p=true/\q=false)\/(p=false/\q=true)):=by
     rcases X with rfl|rfl
     ·exact⟨true,false,rfl,rfl,.inl ⟨rfl,rfl⟩⟩
     exact⟨false,true,rfl,rfl,.inr ⟨rfl,rfl⟩⟩
    obtain⟨p,q,hp1,hp2,hpq⟩:=hp;rw[hp1,hp2]at hnc;have hz:=λW=>iY t 16 W M0 M0;have xO:=F hnc.1;have Bv:=F hnc.2;clear hnc hp1 hp2 hc X;obtain⟨s,hs⟩:=V (E (c::x::t));rw[<-hs]at hsz0 hs2 xO Bv ⊢;clear hs hx0 hs1 hl;by_cases ht:t=[]
    ·subst ht
     obtain rfl:L=0:=hL;clear hz;rcases hpq with⟨rfl,rfl⟩|⟨rfl,rfl⟩
     all_goals
      go_enter func234,ntmps234
      go_wp2_with (first
       |(go_at_call 61;(with_reducible first|refine(xO.o _).m ?_|refine(Bv.o _).m ?_);rintro e w2 ⟨rfl,hw2⟩;subst hw2))
      go_ret2
      exact⟨rfl,rfl⟩
    rw[if_neg ht]at hz;have hL1:L≠0:=λh=>ht (az M0);obtain⟨R,hR⟩:=V (fW 16 4294967296 0 t);rw[<-hR]at hz ⊢;obtain⟨u,hu⟩:=V (E t);rw[<-hu]at hz hs2;have HZ:=F hz;clear hz ht hR hu hL;rcases hpq with⟨rfl,rfl⟩|⟨rfl,rfl⟩
    all_goals
     go_enter func234,ntmps234
     go_wp2_with (first
      |(go_at_call 61;(with_reducible first|refine(xO.o _).m ?_|refine(Bv.o _).m ?_);rintro e w2 ⟨rfl,hw2⟩;subst hw2)
      |(go_at_call 233;refine(HZ.o _).m ?_;rintro e w2 ⟨rfl,hw2⟩;subst hw2))
     go_ret2
     exact⟨rfl,rfl⟩
   rw[if_neg X];rw[show decide (x=120)=false by simpa using λh=>X (.inl h),show decide (x=88)=false by simpa using λh=>X (.inr h)]at hnc;have hz:=λW=>iY (x::t) 8 W (by simp at hl ⊢;omega) M0;rw[if_neg Oc]at hz;have xO:=F hnc.1;have Bv:=F hnc.2;clear hnc hc X;obtain⟨R,hR⟩:=V (fW 8 4294967296 0 (x::t));rw[<-hR]at hz ⊢;obtain⟨u,hu⟩:=V (E (x::t));rw[<-hu]at hz hs1;obtain⟨s,hs⟩:=V (E (c::x::t));have hx0':∀ h:0<s.size,((s[0]'h).toNat:Int)=48:=by subst hs;exact hx0
   rw[<-hs]at hsz0 hs1 xO Bv ⊢;clear hs hx0 hs2 hl;have hx1:=hx0' (show 0<s.size by rw[hsz0];exact b1p _);have HZ:=F hz;clear hz hR hu hL hx0';go_enter func234,ntmps234
   go_wp2_with (first
    |(go_at_call 61;(with_reducible first|refine(xO.o _).m ?_|refine(Bv.o _).m ?_);rintro e w2 ⟨rfl,hw2⟩;subst hw2)
    |(go_at_call 233;refine(HZ.o _).m ?_;rintro e w2 ⟨rfl,hw2⟩;subst hw2))
   go_ret2
   exact⟨rfl,rfl⟩
  have U:G c≠48:=λh=>hc (by have:=eX (x:=c) (y:=48) (by rw[h];decide);exact this);rw[if_neg hc];rw[show decide (c=48)=false by simpa using hc,Bool.false_and,Bool.false_and]at hnc;have hz:=λW=>iY (c::x::t) 10 W hl M0;rw[if_neg Oc]at hz;have xO:=F hnc.1;have Bv:=F hnc.2;clear hnc hc;obtain⟨R,hR⟩:=V (fW 10 4294967296 0 (c::x::t));rw[<-hR]at hz ⊢;obtain⟨s,hs⟩:=V (E (c::x::t));have hx0':∀ h:0<s.size,((s[0]'h).toNat:Int)=G c:=by subst hs;exact hx0
  rw[<-hs]at hsz0 hz xO Bv ⊢;clear hs hx0 hs1 hs2 hl;have hx1:=hx0' (show 0<s.size by rw[hsz0];exact b1p _);generalize G c=C at U hx1;have HZ:=F hz;clear hz hR hL hx0';go_enter func234,ntmps234
  go_wp2_with (first
   |(go_at_call 61;(with_reducible first|refine(xO.o _).m ?_|refine(Bv.o _).m ?_);rintro e w2 ⟨rfl,hw2⟩;subst hw2)
   |(go_at_call 233;refine(HZ.o _).m ?_;rintro e w2 ⟨rfl,hw2⟩;subst hw2))
  go_ret2
  exact⟨rfl,rfl⟩

theorem lT:(prog.info? 9).map (λi=>(i.zero,i.size,i.bytes))=some (some (.string ⟨#[]⟩),1,16):=Rz
def a8s(w:H)(ps:List O):Ending->H->Prop:=λe w'=>∃ v,e=.returned v/\Sl w'.heap.size w' v (ps.map S)/\r7 w w'
theorem Wm(w:H)(ps:List O)(hl:ps.length<=1024000000):Sl (w.alloc (.cells (Strs ps).toArray 9)).heap.size (w.alloc (.cells (Strs ps).toArray 9)) (.slice (some ⟨w.heap.size,0,none⟩) ps.length ps.length) (ps.map S) :=
 Sl.ew (Dk w w.heap.size 9 ps (ag _) hl)
theorem Sl.pre{B b o n c:Nat}{w:H}{xs:List Z}(h:Sl B w (.slice (some ⟨b,o,none⟩) n c) xs)(hn:n=xs.length)(hn0:n≠0)(k:Nat)(hk:k<=n):Sl B w (.slice (some ⟨b,o,none⟩) k c) (xs.take k):=by
 obtain⟨c',Y,I,h⟩:=h;rcases h with⟨X,_⟩|⟨b',o',U,hv,ha⟩
 ·rw[X]at hn;exact absurd hn hn0
 injection hv with e1 e2 e3
 injection e1 with e1
 injection e1 with e4 e5
 subst e4 e5 e3;refine⟨c,by rw[aD];omega,I,.inr ⟨b,o,U,?_,λj hj=>?_⟩⟩
 ·rw[aD,xB M0]
 rw[aD]at hj;rw[ha j M0];simp
theorem last_at{α:Type}{l:List α}{K:Nat}(h:l.length=K+1):l.getLast? = some (l[K]' M0):=by
 rw[List.getLast?_eq_getElem?,show l.length-1=K by omega];exact aG M0
theorem yO(l:O)(w:H)(hl:l.length<=102400000)(hE:Env w):Calls prog 232 #[.string (E l)] w (a8s w (eQ l)):=by
 have hsp:=zc l w hE M0;rw[p6,<-BT]at hsp;have hlen:=uZ 46 l;obtain⟨ps,hps⟩:=V (ep 46 l);have hpf:eQ l=if 1<ps.length/\ps.getLast? = some []then ps.dropLast else ps:=by unfold eQ;rw[hps]
 have hne:ps ≠ []:=by obtain⟨p,q,h⟩:=jV 46 l;rw[hps,h];simp
 rw[hpf];rw[<-hps]at hsp hlen;clear hpf hps;obtain⟨K,hK⟩:∃ K,ps.length=K+1:=⟨ps.length-1,by have:=eo.mpr hne;omega⟩;have hla:=last_at hK;have hKm:K<=102400000:=M0;have hsl:=Wm w ps M0;have hbel:Below w.heap.size w (w.alloc (.cells (Strs ps).toArray 9)):=(Below.refl _ w).alloc (ag _) _;rw[hK]at hsp hsl;obtain⟨b,o,hbo,_,hcell⟩:=gO hsl K M0;obtain⟨rfl,rfl⟩:b=w.heap.size/\o=0:=by injection hbo with h;injection h with Y I;exact⟨Y.symm,I.symm⟩
 rw[bM]at hcell;rw[hla];obtain⟨q,hq⟩:=V (ps[K]' M0);rw[<-hq]at hcell ⊢;obtain⟨w2,hw2⟩:=V (w.alloc (.cells (Strs ps).toArray 9));rw[<-hw2]at hsp hsl hbel hcell;obtain⟨s,hs⟩:=V (E l);rw[<-hs]at hsp ⊢;obtain⟨g,hg⟩:=V (w.heap.size);rw[<-hg]at hsp hsl hbel hcell;have hbel0:∃ g0,g=g0/\g0=w.heap.size:=⟨g,rfl,hg⟩;have HG:=F hbel0;clear hbel0;have ji:=F hsp;clear hsp;have HSL:=F hsl;clear hsl;have Eh:=F (show Below w.heap.size w w2 from hg▸hbel);clear hbel;clear hs hw2 hla hne hlen hbo hE hg;clear hq;obtain⟨N,hN⟩:=V (K+1);have hw1:IntKind.i64.wrap (((K+1:Nat):Int)-1)=(K:Int):=by rw[IntWalk.i64_in _ M0];omega
 rw[<-hN]at ji hw1;have hKN:K<N:=M0;have HN:=F hN;clear hN;by_cases Y:1<N
 ·by_cases hqe:q=[]
  ·have he:(E q).toList.isEmpty=true:=by rw[aB,hqe];rfl
   have he2:(E q).toList=[]:=by rw[aB,hqe]
   rw[if_pos ⟨by have:=HN.o;omega,by rw[hqe]⟩]
   have hfin:Sl w2.heap.size w2 (.slice (some ⟨g,0,none⟩) K N) (ps.dropLast.map S):=by
    have:=HSL.o.pre (by rw[ay,hK]) M0 K M0;rw[iN,hK,Nat.add_sub_cancel,a6r,HN.o];exact this
   have HA2:=F hfin;clear hfin;replace hcell:w2.cell? ⟨g,K,none⟩=some (.string (E q)):=hcell;generalize E q=u at hcell he he2;clear hqe hK HSL;go_enter func232,ntmps232;go_wp2_with fail;refine(ji.o).m ?_;rintro e w3 ⟨rfl,rfl⟩;go_wp2_with fail;go_ret;exact⟨_,rfl,HA2.o,Eh.o⟩
  have he:(E q).toList.isEmpty=false:=by rw[aB];simpa using hqe
  have he2:¬ (E q).toList=[]:=by rw[aB];exact hqe
  rw[if_neg (λa=>hqe (by have:=a.2;injection this))];have Nx:=F HSL.o;rw[<-HN.o]at Nx;replace hcell:w2.cell? ⟨g,K,none⟩=some (.string (E q)):=hcell;generalize E q=u at hcell he he2;clear hqe hK HSL;go_enter func232,ntmps232;go_wp2_with fail;refine(ji.o).m ?_;rintro e w3 ⟨rfl,rfl⟩;go_wp2_with fail;go_ret;exact⟨_,rfl,Nx.o,Eh.o⟩
 rw[if_neg (λa=>Y (by have:=HN.o;omega))];have Nx:=F HSL.o;rw[<-HN.o]at Nx;clear hK HSL hcell;go_enter func232,ntmps232;go_wp2_with fail;refine(ji.o).m ?_;rintro e w3 ⟨rfl,rfl⟩;go_wp2_with fail;go_ret;exact⟨_,rfl,Nx.o,Eh.o⟩

theorem tC{l p:O}(h:p∈eQ l):p.length<=l.length:=(mq 46 l p (LV h)).1
theorem OY(l:O)(w:H)(hl:l.length<=102400000)(hE:Env w):bF prog 223 #[.string (E l)] w (.bool (yo l)):=by
 have hpa:=yO l w hl hE;have hsm:=λp (h:p∈eQ l)=>tC h;have hpn:=yP l;have hef:yo l=Jk ((eQ l).getLast (lQ l)):=rfl;have hne:=lQ l;rw[hef];clear hef;have hla:∀ (ps:List O) (h:ps ≠ []) (K:Nat) (hK:ps.length=K+1),ps.getLast h=ps[K]' M0:=λps h K hK=>by rw[List.getLast_eq_getElem];congr 1;omega
 obtain⟨K,hK⟩:∃ K,(eQ l).length=K+1:=⟨(eQ l).length-1,by have:=eo.mpr hne;omega⟩;obtain⟨q,hq0⟩:=V ((eQ l).getLast (lQ l));have hqq:=hq0;rw[hla _ _ K hK]at hqq;rw[<-hq0];clear hq0;generalize eQ l=ps at hpa hsm hpn hne hK hqq;have hq:q.length<=l.length:=by rw[hqq];exact hsm _ (be _)
 have hKm:K<=102400000:=M0;have hd:=λW=>iY q 10 W M0 M0;have hn:=λW=>Cy q W M0
 have hlf:Jk q=((if q=[]then none else fW 10 4294967296 0 q).isSome||(p5 4294967296 q).isSome):=by
  unfold Jk;by_cases h:q=[]
  ·subst h;rfl
  rw[if_neg h,Bool.or_comm]
  congr 1
  cases fW 10 4294967296 0 q <;>simp[h]
 rw[hlf];clear hlf hsm hpn hla;generalize (if q=[]then none else fW 10 4294967296 0 q)=o1 at hd;generalize p5 4294967296 q=o2 at hn
 have hsl:∀ (w2:H) (v:Z),Sl w2.heap.size w2 v (ps.map S)->∃ b o c,v=.slice (some ⟨b,o,none⟩) (K+1) c/\w2.cell? ⟨b,o+K,none⟩=some (.string (E q)):=by
  intro w2 v h;obtain⟨a,c,rfl⟩:=cQ h;rw[ay,hK]at h ⊢;obtain⟨b,o,rfl,_,hc⟩:=gO h K M0;exact⟨b,o,c,rfl,by rw[hqq];exact hc⟩
 obtain⟨N,hN⟩:=V (K+1);have hw1:IntKind.i64.wrap (((K+1:Nat):Int)-1)=(K:Int):=by rw[IntWalk.i64_in _ M0];omega
 rw[<-hN]at hsl hw1;have hKN:K<N:=M0;have HSL:=F hsl;clear hsl;have HD:=F hd;clear hd;have HN:=F hn;clear hn;have MX:=F hpa;clear hpa;obtain⟨s,hs⟩:=V (E l);rw[<-hs]at MX ⊢;obtain⟨u,hu⟩:=V (E q);rw[<-hu]at HSL HD HN;clear hs hu hqq hK hN hq;cases o1 with
 |some d =>
  go_enter func223,ntmps223;go_wp2_with fail;refine(MX.o).m ?_;rintro e w2 ⟨v,rfl,hv,hb2⟩;obtain⟨b,o,c,rfl,hc⟩:=HSL.o w2 v hv;have HB:=F hb2;clear hb2 hv
  go_wp2_with (first
   |(go_at_call 233;refine(HD.o _).m ?_;rintro e w2 ⟨rfl,hw2⟩;subst hw2))
  go_ret;exact⟨rfl,HB.o⟩
 |none =>
  rw[Option.isSome_none,Bool.false_or];go_enter func223,ntmps223;go_wp2_with fail;refine(MX.o).m ?_;rintro e w2 ⟨v,rfl,hv,hb2⟩;obtain⟨b,o,c,rfl,hc⟩:=HSL.o w2 v hv;have HB:=F hb2;clear hb2 hv
  go_wp2_with (first
   |(go_at_call 233;refine(HD.o _).m ?_;rintro e w2 ⟨rfl,hw2⟩;subst hw2)
   |(go_at_call 234;refine(HN.o _).m ?_;rintro e w2 ⟨rfl,hw2⟩;subst hw2))
  go_ret;exact⟨rfl,HB.o⟩
theorem Zy{C:Int}{i:Nat}{s:Int}{ps:List O}{k:Nat}(h:k+1=ps.length):sj C i s (ps.drop k)=match p5 C (ps[k]' M0)with|none=>none|some n=>if room i<=n then none else some (s+n):=by
 rw[aC M0,dG M0];rfl
theorem UO{C:Int}{i:Nat}{s:Int}{ps:List O}{k:Nat}(h:k+1<ps.length):sj C i s (ps.drop k)=match p5 C (ps[k]' M0)with|none=>none|some n=>if 255<n then none else sj C (i+1) (s+n*room (i+1)) (ps.drop (k+1)):=by
 rw[aC (show k<ps.length by omega),aC h];rfl
abbrev a8t(o:Option Int):Ending:=.returned (.tuple #[.int .u32 (o.getD 0),.bool o.isSome])
theorem FL(l:O)(w:H)(hl:l.length<=102400000)(hE:Env w):Calls prog 224 #[.string (E l)] w λe w'=>e=a8t (nZ l)/\r7 w w':=by
 have hpa:=yO l w hl hE;have hsm:=λp (h:p∈eQ l)=>tC h;have hpn:=yP l;have hne:=lQ l;unfold nZ fpF;have hrg:∀ v,(eQ l).length<=4->sj 4294967296 0 0 (eQ l)=some v->0<=v/\v<4294967296:=λv h I=>vx _ 0 0 v hne M0 M0 P8 I;generalize eQ l=ps at hpa hsm hpn hne hrg;obtain⟨N,hN⟩:=V (ps.length);have hN0:N≠0:=λh=>hne (az M0)
 have hsl:∀ (w2:H) (v:Z),Sl w2.heap.size w2 v (ps.map S)->∃ b o c,v=.slice (some ⟨b,o,none⟩) N c/\b<w2.heap.size/\∀ k (hk:k<ps.length),w2.cell? ⟨b,o+k,none⟩=some (.string (E ps[k])):=by
  intro w2 v h;obtain⟨a,c,rfl⟩:=cQ h;rw[ay,<-hN]at h;obtain⟨b,o,rfl,U,hc⟩:=gO h 0 M0;refine⟨b,o,c,by rw[ay,<-hN],U,λk hk=>?_⟩;obtain⟨b',o',he,_,hc'⟩:=gO h k hk;injection he with he;injection he with e1 e2
  rw[e1,e2];exact hc'
 obtain⟨s,hs⟩:=V (E l);rw[<-hs]at hpa ⊢;clear hs hE;have HSL:=F hsl;clear hsl;have MX:=F hpa;clear hpa;have YF:=F hsm;clear hsm;have HL:=F hl;clear hl;have EE:=F hrg;clear hrg;rw[<-hN]at hpn ⊢;have oP:N<=1024000000:=by have:=HL.o;omega
 clear hpn hne;by_cases h4:4<N
 ·rw[if_pos h4]
  clear hN;go_enter func224,ntmps224;go_wp2_with fail;refine(MX.o).m ?_;rintro e w2 ⟨v,rfl,hv,hb2⟩;obtain⟨b,o,c,rfl,U,hc⟩:=HSL.o w2 v hv;have HB:=F hb2;clear hb2 hv hc;go_wp2_with fail
  go_ret2
  exact⟨rfl,HB.o⟩
 rw[if_neg h4];have HN:=F hN;clear hN;obtain⟨R,hR⟩:=V (sj 4294967296 0 0 ps);rw[<-hR];have hrr:∀ v,R=some v->0<=v/\v<4294967296:=λv h=>EE.o v (by rw[<-HN.o];omega) (by rw[<-hR];exact h);have HR:=F hR;clear hR;have HRR:=F hrr;clear hrr EE;go_enter func224,ntmps224;go_wp2_with fail;refine(MX.o).m ?_;rintro e w2 ⟨v,rfl,hv,hb2⟩;obtain⟨b,o,c,rfl,U,hc⟩:=HSL.o w2 v hv;have HB:=F hb2;clear hb2 hv;have HC:=F hc;clear hc;go_wp2_with fail
 go_loopw [5,17] (λsv iv wr=>∃ (k:Nat) (n:Int),k<=N/\iv=.int .i64 k/\sv=.int .i64 n/\Hid (sj 4294967296 k n (ps.drop k)=R)/\0<=n/\n<=4294967296/\(k<N->n+room k<=4294967296)/\w2=wr) (λ_ i _=>N-(intOf i).toNat)
 case atStart=>exact⟨0,0,M0,Oc,Oc,HR.o.symm,M0,M0,λ_=>P8,rfl⟩
 case round =>
  obtain⟨k,n,hk,rfl,rfl,hf,hn0,hn1,hn2,rfl⟩:=hrel;by_cases hlt:k<N
  ·have hkl:k<ps.length:=by have:=HN.o;omega
   have hcell:=HC.o k hkl;have hnm:=λW=>Cy ps[k] W (by have:=YF.o ps[k] (be hkl);have:=HL.o;omega);have hge:=λv h=>Gy (C:=4294967296) P8 (s:=ps[k]'hkl) (v:=v) h;have hf1:=hf.o;by_cases hlast:k+1=N
   ·rw[Zy (by have:=HN.o;omega)]at hf1
    generalize p5 4294967296 ps[k]=O' at hnm hge hf1;generalize E ps[k]=u at hcell hnm;have mX:=F hnm;clear hnm hf;cases O' with
    |none =>
     have HF:=F (show none=R from hf1);clear hf1 hge;have hw1:IntKind.i64.wrap ((N:Int)-1)=(k:Int):=by rw[IntWalk.i64_in _ M0];omega
     go_wp2_with (first
      |(go_at_call 234;refine(mX.o _).m ?_;rintro e w3 ⟨rfl,hw3⟩;subst hw3))
     go_ret2
     exact⟨by rw[<-HF.o];rfl,HB.o⟩
    |some m =>
     have hm:=hge m rfl;have HF:=F (show(if room k<=m then none else some (n+m))=R from hf1);clear hf1 hge;have hw1:IntKind.i64.wrap ((N:Int)-1)=(k:Int):=by rw[IntWalk.i64_in _ M0];omega
     have hk4:k=0\/k=1\/k=2\/k=3:=M0;have CN:=hn2 hlt;have hws:IntKind.i64.wrap (n+m)=n+m:=IntWalk.i64_in _ M0;by_cases hrm:room k<=m
     ·rw[if_pos hrm]at HF
      clear hn2 CN;have W5:=F hlast;clear hlast;rcases hk4 with rfl|rfl|rfl|rfl
      all_goals
       simp only[room]at hrm
       try simp only[dH]at hcell
       go_wp2_with (first
        |(go_at_call 234;refine(mX.o _).m ?_;rintro e w3 ⟨rfl,hw3⟩;subst hw3))
       go_ret2
       exact⟨by rw[<-HF.o];rfl,HB.o⟩
     rw[if_neg hrm]at HF;have hs2:n+m<=4294967296:=M0;have HR2:=F (show sj 4294967296 (k+1) (n+m) (ps.drop (k+1))=R by rw[dG (by have:=HN.o;omega)];exact HF.o);have hkn:¬ k+1<N:=M0;clear hn2 CN;have W5:=F hlast;clear hlast;have HKN:=F hkn;clear hkn;rcases hk4 with rfl|rfl|rfl|rfl
     all_goals
      simp only[room]at hrm
      try simp only[dH]at hcell
      go_wp2_with (first
       |(go_at_call 234;refine(mX.o _).m ?_;rintro e w3 ⟨rfl,hw3⟩;subst hw3))
      go_roundw
      case rel=>exact⟨_,n+m,(by have:=W5.o;omega),r5,r5,HR2.o,M0,M0,λh=>absurd h HKN.o,by trivial⟩
      case measure=>simp[intOf];omega
   rw[UO (by have:=HN.o;omega)]at hf1;generalize p5 4294967296 ps[k]=O' at hnm hge hf1;generalize E ps[k]=u at hcell hnm;have mX:=F hnm;clear hnm hf;have hw1:IntKind.i64.wrap ((N:Int)-1)=(N:Int)-1:=by rw[IntWalk.i64_in _ M0]
   have hnl:¬ (k:Int)=(N:Int)-1:=M0;cases O' with
   |none =>
    have HF:=F (show none=R from hf1);clear hf1 hge
    go_wp2_with (first
     |(go_at_call 234;refine(mX.o _).m ?_;rintro e w3 ⟨rfl,hw3⟩;subst hw3))
    go_ret2
    exact⟨by rw[<-HF.o];rfl,HB.o⟩
   |some m =>
    have hm:=hge m rfl;have HF:=F (show(if 255<m then none else sj 4294967296 (k+1) (n+m*room (k+1)) (ps.drop (k+1)))=R from hf1);clear hf1 hge;by_cases XK:255<m
    ·rw[if_pos XK]at HF
     go_wp2_with (first
      |(go_at_call 234;refine(mX.o _).m ?_;rintro e w3 ⟨rfl,hw3⟩;subst hw3))
     go_ret2
     exact⟨by rw[<-HF.o];rfl,HB.o⟩
    rw[if_neg XK]at HF;have hk4:k=0\/k=1\/k=2:=M0;have CN:=hn2 hlt;clear hn2;rcases hk4 with rfl|rfl|rfl
    ·simp only[room]at HF CN
     try simp only[dH]at hcell
     have Z7:IntKind.i64.wrap (m*16777216)=m*16777216:=IntWalk.i64_in _ M0;have hws:IntKind.i64.wrap (n+m*16777216)=n+m*16777216:=IntWalk.i64_in _ M0
     go_wp2_with (first
      |(go_at_call 234;refine(mX.o _).m ?_;rintro e w3 ⟨rfl,hw3⟩;subst hw3))
     have CO:n+m*16777216<=4294967296/\(1<N->n+m*16777216+room (1)<=4294967296):=⟨M0,λ_=>by show _+_+16777216<=_;omega⟩;go_roundw
     case rel=>exact⟨1,n+m*16777216,M0,r5,r5,HF.o,M0,CO.1,CO.2,by trivial⟩
     case measure=>simp[intOf];omega
    ·simp only[room]at HF CN
     try simp only[dH]at hcell
     have Z7:IntKind.i64.wrap (m*65536)=m*65536:=IntWalk.i64_in _ M0;have hws:IntKind.i64.wrap (n+m*65536)=n+m*65536:=IntWalk.i64_in _ M0
     go_wp2_with (first
      |(go_at_call 234;refine(mX.o _).m ?_;rintro e w3 ⟨rfl,hw3⟩;subst hw3))
     have CO:n+m*65536<=4294967296/\(2<N->n+m*65536+room (2)<=4294967296):=⟨M0,λ_=>by show _+_+65536<=_;omega⟩;go_roundw
     case rel=>exact⟨2,n+m*65536,M0,r5,r5,HF.o,M0,CO.1,CO.2,by trivial⟩
     case measure=>simp[intOf];omega
    simp only[room]at HF CN
    try simp only[dH]at hcell
    have Z7:IntKind.i64.wrap (m*256)=m*256:=IntWalk.i64_in _ M0;have hws:IntKind.i64.wrap (n+m*256)=n+m*256:=IntWalk.i64_in _ M0
    go_wp2_with (first
     |(go_at_call 234;refine(mX.o _).m ?_;rintro e w3 ⟨rfl,hw3⟩;subst hw3))
    have CO:n+m*256<=4294967296/\(3<N->n+m*256+room (3)<=4294967296):=⟨M0,λ_=>by show _+_+256<=_;omega⟩;go_roundw
    case rel=>exact⟨3,n+m*256,M0,r5,r5,HF.o,M0,CO.1,CO.2,by trivial⟩
    case measure=>simp[intOf];omega
  obtain rfl:k=N:=M0;have hf1:=hf.o;rw[dG (by have:=HN.o;omega)]at hf1;have hfs:some n=R:=hf1;have hnr:=HRR.o n hfs.symm;have hwr:IntKind.u32.wrap n=n:=by rw[IntKind.wrap_u32];omega
  have HF:=F hfs;clear hf hf1 hfs;clear hn2;go_wp2_with fail
  go_ret2
  exact⟨by rw[<-HF.o];rfl,HB.o⟩

theorem jg(o:List O)(p:O):Strs (o++[p])=Strs o++[.string (E p)]:=Oc
