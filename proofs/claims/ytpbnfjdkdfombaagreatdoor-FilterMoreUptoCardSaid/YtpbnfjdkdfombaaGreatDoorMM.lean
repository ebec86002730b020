import Derived.Test.YtpbnfjdkdfombaaGreatDoorGTrP
set_option maxHeartbeats 40000000
namespace Go.Proofs.YtpbnfjdkdfombaaGreatDoor
open Go.Proofs.Tryz
open Go.RowKit
set_option maxRecDepth 10000
theorem b3M{P:Program}(w:H)(base:Nat)(t ty e:TypeId)(i:TypeInfo)(z:Z)(bytes:Nat)(q:P.underlying t=some (.slice e))(hi:P.info? e=some i)(K:i.zero=some z)
  (hsize:i.size=1) (m:i.bytes=bytes) (r:z.cells.size=1) (v:Z) (n:Nat) (xs ys:List Z) (hown:w.ownsRow base e 1 v n xs) (Y:∀ u∈ys,u.oneCell'=true)
  (l:n+ys.length<=maxLen) (hlen:(n+ys.length)*bytes<=140737488355328) (hbase:base<=w.heap.size) (B:Nat) (x:Z) (X:Sl B w x ys) :
  ∃d f,(Builtin.append_ #[t,t] ty #[v,x]).run P w=.ok d f/\f.ownsRow base e 1 d (n+ys.length) (xs++ys)/\w.grownBy f v.ownBlock /\
   (d.ownBlock=v.ownBlock\/d.ownBlock=some w.heap.size):=by
 have some_:∀ (k:Addr) (c:Nat),(∀j u,ys[j]? = some u->w.cell? (k.add j)=some u)->∃ d f,(Builtin.append_ #[t,t] ty #[v,.slice (some k) ys.length c]).run P w=.ok d f/\f.ownsRow base e 1 d (n+ys.length) (xs++ys)/\w.grownBy f v.ownBlock /\
   (d.ownBlock=v.ownBlock\/d.ownBlock=some w.heap.size):=by
  intro k c s;obtain⟨d,f,y,a2,a3,_,a5⟩:=run_append_own_at (P:=P) w base t ty e i z 1 bytes q hi K hsize m r P8 v n _ hown k ys.length c ys Oc s Y l hlen hbase;exact⟨d,f,y,a2,a3,a5⟩
 obtain⟨c,s,hm,h⟩:=X;rcases h with⟨J,a,rfl⟩|⟨b,o,U,rfl,C⟩
 ·obtain rfl:ys=[]:=J
  cases a with
  |some a=>exact some_ a c (λj u hu=>by simp at hu)
  |none =>
   refine⟨v,w,?_,by simpa using hown,⟨rfl,rfl,rfl,ag _,λ_ _ _=>rfl⟩,.inl rfl⟩;rcases hown.2 with⟨rfl,rfl⟩|⟨g,cap,cur,rfl,_,hg,p,hcm,hcs,htake⟩
   ·simp[Builtin.append_,run_underlying q,sizeOf,typeInfo,hi,Builtin.lenOf,Builtin.firstCells]
   simp[Builtin.append_,run_underlying q,sizeOf,typeInfo,hi,Builtin.lenOf,Builtin.firstCells,p,storeCells]
 refine some_ ⟨b,o,none⟩ c (λj u hu=>?_);obtain⟨D,rfl⟩:=bh.1 hu;rw[addr_add];exact C j D

theorem b4q(w:H)(e:TypeId):(w.alloc (.cells #[] e)).ownsRow w.heap.size e 1 (.slice (some ⟨w.heap.size,0,none⟩) 0 0) 0 []:=by
 refine⟨Oc,.inr ⟨w.heap.size,0,#[],rfl,ag _,heap_alloc_new w _,ag _,by unfold maxLen;omega,Oc,Oc⟩⟩
theorem fa.open{W:H}{base:Nat}{v:Z}{l:List eu}(c:fa W base v l)(o:l ≠ []):∃ g cap,v=.slice (some ⟨g,0,none⟩) l.length cap/\base<=g/\∀ k (i:k<l.length),∃A wv,
  (∀j x,(bN A wv l[k])[j]? = some x->W.cell? ⟨g,k*25+j,none⟩=some x)/\mZ W base ((A,wv),l[k]):=by
 obtain⟨a,rfl,I,h⟩:=c;rcases I.2 with⟨rfl,h0⟩|⟨g,cap,cur,rfl,n,_⟩
 ·have:a=[]:=az h0
  subst this;exact absurd rfl o
 refine⟨g,cap,by rw[ay],n,λk i=>?_⟩;have d:k<a.length:=by simpa using i
 have hp:=h a[k] (be d);refine⟨a[k].1.1,a[k].1.2,λj x f=>?_,?_⟩
 ·rw[cU]at f
  have e:j<25:=by
   have:=(bh.1 f).1;rw[lL hp.six]at this;exact this
  have m:=z8 ipc 25 a (λp hp=>lL (h p hp).six) k j d e;have:=I.cells (g:=g) rfl (k*25+j) x (m.trans f);rw[addr_add,bM]at this;exact this
 rw[cU];exact hp
theorem b3x{xs ys:List O}{k:Nat}(Y:k<xs.length)(I:k<ys.length)(a:xs.take k=ys.take k)(he:xs[k]=ys[k]):xs.take (k+1)=ys.take (k+1):=by
 rw[aH Y,aH I,a,he]
theorem b2Z(xs ys:List O)(J K:Nat)(w:H)(u:xs.length=ys.length)(hm:xs.length<=maxLen)(j q G r:Nat)
  (Y:At w j q (xs.map S)) (I:At w G r (ys.map S)) :
  bF prog 20 #[.slice (some ⟨j,q,none⟩) xs.length J,.slice (some ⟨G,r,none⟩) ys.length K] w (.bool (decide (xs=ys))):=by
 unfold maxLen at hm;have HL:=F u;obtain⟨n,g⟩:=V (xs.length);have e:n=ys.length:=M0;rw[<-g,<-e];rw[<-g]at hm;have s:=F g;clear g;have z:=F e;clear e u;have hne:((n:Int) != n)=false:=Oc;go_enter func20,ntmps20
 go_wp2
 go_loopw [5] (λi wr=>∃ k d:Nat,k<=n/\i=.int .i64 k/\xs.take k=ys.take k/\wr=w.drewN d) (λi _=>n-(intOf i).toNat)
 case atStart=>exact⟨0,0,aL _,rfl,Oc,rfl⟩
 case round =>
  obtain⟨k,d,hk,rfl,v,rfl⟩:=hrel;have t:=F v;clear v;by_cases hlt:k<n
  ·have X:k<xs.length:=by have:=s.o;omega
   have hy:k<ys.length:=by have:=z.o;omega
   have l:w.cell? ⟨j,q+k,none⟩=some (.string (E xs[k])):=by rw[Y k (by simpa using X),cU]
   have m:w.cell? ⟨G,r+k,none⟩=some (.string (E ys[k])):=by rw[I k (by simpa using hy),cU]
   have heq:=rI xs[k] ys[k];have a:=F (show ∀_:xs[k]=ys[k],xs.take (k+1)=ys.take (k+1)from λhe=>b3x X hy t.o he);have c:=F (show ∀_:¬ xs[k]=ys[k],decide (xs=ys)=false from λhe=>decide_eq_false λh=>he (by subst h;rfl));obtain⟨x,B⟩:=V (E xs[k]);obtain⟨y,f⟩:=V (E ys[k]);rw[<-B]at l heq;rw[<-f]at m heq;clear B f;by_cases he:xs[k]=ys[k]
   ·rw[decide_eq_true he]at heq
    have p:(x.toList != y.toList)=false:=by unfold bne;rw[heq];rfl
    have C:=F<|a.o he;clear he a c
    go_wp2
    go_quiet (fail)
    go_wp2
    go_roundw
    case rel=>exact⟨k+1,_,M0,by go_num,C.o,rfl⟩
    case measure=>simp[intOf];omega
   rw[decide_eq_false he]at heq;have p:(x.toList != y.toList)=true:=by unfold bne;rw[heq];rfl
   have D:=F<|c.o he;clear he a c
   go_wp2
   go_quiet (fail)
   go_wp2
   go_ret;exact⟨eA D.o.symm,ft (ft (Below.refl _ _) _) _⟩
  go_wp2
  go_ret;refine⟨eA ?_,ft (Below.refl _ _) _⟩;have e1:=s.o;have e2:=z.o;have h:=t.o;rw[aP M0,aP M0]at h;simp[h]
theorem a6D(xs ys:List O)(d e:Option Addr)(g i:Nat)(w:H)(a:xs.length≠ys.length) :
  bF prog 20 #[.slice d xs.length g,.slice e ys.length i] w (.bool (decide (xs=ys))):=by
 have hfin:decide (xs=ys)=false:=by
  rw[decide_eq_false_iff_not];intro h;exact a (by rw[h])
 have f:=F hfin;clear hfin;obtain⟨n,c⟩:=V (xs.length);obtain⟨m,hm⟩:=V (ys.length);rw[<-c,<-hm]at a;rw[<-c,<-hm];clear c hm;have hne:((n:Int) != m)=true:=by simp;omega
 clear a;go_enter func20,ntmps20
 go_wp2
 go_ret;exact⟨eA f.o.symm,Below.refl _ _⟩
theorem b20(a c:Option Addr)(d e:Nat)(w:H) :
  bF prog 20 #[.slice a 0 d,.slice c 0 e] w (.bool true):=by
 go_enter func20,ntmps20
 go_wp2
 refine wp_loop_rounds 1 ?_;rw[rounds_succ]
 go_wp2
 go_ret;exact⟨rfl,Below.refl _ _⟩
theorem b3s(xs ys:List O)(v1 v2:Z)(w:H)(o p:Nat)(Y:Sl o w v1 (xs.map S))(I:Sl p w v2 (ys.map S)) :
  bF prog 20 #[v1,v2] w (.bool (decide (xs=ys))):=by
 obtain⟨q,j,hm1,Y⟩:=Y;obtain⟨r,k,hm2,I⟩:=I;have s:(xs.map S).length=xs.length:=Oc;have t:(ys.map S).length=ys.length:=Oc;rw[s]at j Y;rw[t]at k I
 have none_:∀ f a2 d1 d2,bF prog 20 #[.slice f 0 d1,.slice a2 0 d2] w (.bool (decide (([]:List O)=[]))) :=
  λf a2 d1 d2=>(b20 f a2 d1 d2 w).m λe w' h=>⟨by rw[h.1];simp,h.2⟩
 by_cases d:xs.length=ys.length
 ·rcases Y with⟨c,f,rfl⟩|⟨l,n,_,rfl,g⟩
  ·obtain rfl:xs=[]:=by simpa using c
   obtain rfl:ys=[]:=az (by simpa using d.symm);rcases I with⟨_,a2,rfl⟩|⟨G,i,_,rfl,a⟩
   ·exact none_ _ _ _ _
   exact none_ _ _ _ _
  rcases I with⟨c,a2,rfl⟩|⟨G,i,_,rfl,a⟩
  ·obtain rfl:ys=[]:=by simpa using c
   obtain rfl:xs=[]:=az (by simpa using d);exact none_ _ _ _ _
  exact b2Z xs ys q r w d M0 l n G i g a
 rcases Y with⟨c,f,rfl⟩|⟨l,n,_,rfl,g⟩
 ·obtain rfl:xs=[]:=by simpa using c
  rcases I with⟨c,a2,rfl⟩|⟨G,i,_,rfl,a⟩
  ·obtain rfl:ys=[]:=by simpa using c
   exact absurd rfl d
  simp only[aO]at *;exact a6D [] ys _ _ _ _ w d
 rcases I with⟨c,a2,rfl⟩|⟨G,i,_,rfl,a⟩
 ·obtain rfl:ys=[]:=by simpa using c
  exact a6D xs [] _ _ _ _ w d
 exact a6D xs ys _ _ _ _ w d
theorem a6s{p:qh}{kind:Int}{i:eu}(h:jO p kind i=true):i.right=true/\uP p i.url=true:=by
 unfold jO at h;rw[ct,ct]at h;exact h.1

structure a7g (p:qh) (b:Url) (el name raw:O) (v:Vrd):Prop where
 kn:gA el name≠0
 rg:oy b=true
 l:(raw.length:Int)<=p.most
 ne:(mg (gA el name) b (jw raw)).items.filter (jO p (gA el name)) ≠ []
 w:v=⟨3,0,kK (gA el name) ((mg (gA el name) b (jw raw)).items.filter (jO p (gA el name))) (mg (gA el name) b (jw raw)).delay⟩
 o:(v.o.length:Int)<=p.most

theorem a59{p:qh}{b:Url}{a name raw:O}(h:(dQ p b a name raw).kind=3):a7g p b a name raw (dQ p b a name raw):=by
 revert h;unfold dQ
 split
 ·intro h;exact absurd h P8
 next Y =>
 split
 ·intro h;exact absurd h P8
 next I =>
 split
 ·intro h;exact absurd h P8
 next c =>
 split
 ·intro h;exact absurd h P8
 split
 ·intro h;exact absurd h P8
 next d =>
 split
 ·intro h;exact absurd h P8
 next h6=>exact λ_=>⟨Y,by simpa using c,M0,d,rfl,by dsimp only;omega⟩
def a5P(p q:qh):qh:=⟨q.schemes++p.schemes,q.hosts++p.hosts,q.types++p.types,p.most⟩
theorem b25{p:qh}(q:qh){u:Url}(h:uP p u=true):uP (a5P p q) u=true:=by
 unfold uP mC Sw at h ⊢;rw[ct,ct]at h ⊢;obtain⟨⟨Y,I⟩,a⟩:=h;refine⟨⟨?_,?_⟩,?_⟩
 ·exact decide_eq_true (bO.mpr (.inr (of_decide_eq_true Y)))
 ·rw[kj]at I ⊢
  rcases I with I|I
  ·exact .inl I
  right
  show(q.hosts++p.hosts).any (mD u.host)=true;rw[List.any_append,I,b3G]
 rw[kj]at a ⊢;rcases a with a|a
 ·exact .inl a
 right
 cases c:BY u with
 |none=>rw[c]at a;cases a
 |some t =>
  rw[c]at a;exact decide_eq_true (bO.mpr (.inr (of_decide_eq_true a)))
theorem b2h{p:qh}(q:qh){kind:Int}{i:eu}(h:jO p kind i=true):jO (a5P p q) kind i=true:=by
 unfold jO at h ⊢;rw[ct,ct]at h ⊢;exact⟨⟨h.1.1,b25 q h.1.2⟩,h.2⟩
theorem a8B{p1 p2:eu->Bool}(h:∀ i,p1 i=true->p2 i=true):∀ l:List eu,(l.filter p1).Sublist (l.filter p2)
 | []=>List.Sublist.slnil
 |i::l=>by
  have a:=a8B h l;cases Y:p1 i with
  |true =>
   rw[aU Y,aU (h i Y)];exact a.cons_cons i
  |false =>
   rw[aZ (by rw[Y];simp)];cases I:p2 i with
   |true =>
    rw[aU I];exact a.cons i
   |false =>
    rw[aZ (by rw[I];simp)];exact a
def a7h(e:eu->eu->Bool):List eu->List eu->Nat
 | [],_=>0
 |_::_,[]=>0
 |a::y,b::x=>if e a b=true then a7h e y x+1 else a7h e y (b::x)
theorem b2B{e:eu->eu->Bool}(he:∀ a,e a a=true):∀ (y x:List eu),x.Sublist y->a7h e y x=x.length
 | [],x,h=>by
  cases h;rfl
 |a::y,[],h=>rfl
 |a::y,b::x,h=>by
  unfold a7h
  have key:x.Sublist y/\(a≠b->(b::x).Sublist y):=by
   cases h with
   |cons _ h=>exact⟨(List.sublist_cons_self b x).trans h,λ_=>h⟩
   |cons_cons _ h=>exact⟨h,λd=>absurd rfl d⟩
  split
  ·rw[b2B he y x key.1,ah]
  next d =>
  have c:a≠b:=by
   rintro rfl;exact d (he a)
  exact b2B he y (b::x) (key.2 c)
theorem b2C{p:qh}(q:qh){b:Url}{a name raw:O}(h:(dQ p b a name raw).kind=3):(dQ (a5P p q) b a name raw).why≠3/\(dQ (a5P p q) b a name raw).why≠4:=by
 have k:=a59 h
 have d:(mg (gA a name) b (jw raw)).items.filter (jO (a5P p q) (gA a name)) ≠ []:=by
  intro h0;have e:=a8B (p1:=jO p (gA a name)) (p2:=jO (a5P p q) (gA a name)) (λi hi=>b2h q hi) (mg (gA a name) b (jw raw)).items;rw[h0]at e;exact k.ne (List.sublist_nil.mp e)
 have f:(mg (gA a name) b (jw raw)).items.any (·.right)=true:=by
  cases c:(mg (gA a name) b (jw raw)).items.filter (jO p (gA a name))with
  |nil=>exact absurd c k.ne
  |cons i l =>
   have hi:i∈(mg (gA a name) b (jw raw)).items.filter (jO p (gA a name)):=by rw[c];exact fA
   exact m8.mpr ⟨i,(a3J.mp hi).1,(a6s (a3J.mp hi).2).1⟩
 have c:=k.l;unfold dQ;rw[if_neg k.kn,if_neg (show ¬(a5P p q).most<(raw.length:Int) by show ¬p.most<_;omega),if_neg (by rw[k.rg];simp),if_neg (by rw[f];simp),if_neg d]
 split
 ·exact⟨P8,P8⟩
 exact⟨by show(0:Int)≠3;decide,by show(0:Int)≠4;decide⟩
theorem a1P(kind:Int)(w:H)(h0:0<=kind):bP prog 11 #[.int .i64 kind] w (.tuple #[S (a1k kind).1,S (a1k kind).2]):=by
 have f:Int.tmod kind 4=kind%4:=ei h0;have e:0<=kind%4/\kind%4<4:=M0;obtain⟨R,a⟩:=V (a1k kind);rw[<-a];unfold a1k at a;obtain⟨r,c⟩:=V (kind%4);rw[<-c]at a f e;have d:=F a;clear a c h0;have hw:IntKind.i64.wrap r=r:=IntWalk.i64_in _ M0;rcases(show r=1\/r=2\/r=3\/r=0 by omega)with rfl|rfl|rfl|rfl
 all_goals
  go_enter func11,ntmps11;go_wp2_with fail
  go_ret2
  exact⟨by rw[d.o];rfl,rfl⟩
theorem a6f{w:H}{base:Nat}{v u:Z}{l m:List O}(hown:w.ownsRow base 9 1 v l.length (Strs l))(U:base<=w.heap.size)(i:Sl w.heap.size w u (m.map S))(hl:l.length+m.length<=1024000000)(ty:TypeId) :
  ∃v2 w2,(Builtin.append_ #[22,22] ty #[v,u]).run prog w=.ok v2 w2/\w2.ownsRow base 9 1 v2 (l++m).length (Strs (l++m))/\Below base w w2:=by
 obtain⟨j,a,c,d,f⟩:=info_parts lT
 obtain⟨v2,w2,Y,I,g,_⟩:=b3M (P:=prog) w base 22 ty 9 j (.string ⟨#[]⟩) 16 underlying22 a c d f P8 v l.length (Strs l) (m.map S) hown
  (λu hu=>by obtain⟨y,_,rfl⟩:=dt.1 hu;rfl) (by rw[ay];unfold maxLen;omega) (by rw[ay];omega) U w.heap.size u i
 refine⟨v2,w2,Y,?_,(Below.refl base w).grown g U (λk h=>(hown.lt k h).1)⟩;rw[ay]at I;rw[ae];have e:Strs (l++m)=Strs l++m.map S:=eY;rw[e];exact I
theorem a1V{P:Program}{o:Oper}{a:Act}{K:Act->H->Prop}{Q:Exit->Act->H->Prop}{w:H}(sl x:Operand)(t u:TypeId)
  (f:o.op=.call {callee:=.builtin .append,args:=#[sl,x],argTypes:=#[t,u]}) (v e c:Z) (d:H) (i:a.eval sl=v) (X:a.eval x=e)
  (g:(Builtin.append_ #[t,u] o.type #[v,e]).run P w=.ok c d) (h:K (a.put o.dst c) d):Oper.wp P o a w K Q:=by
 unfold Oper.wp execOp;simp only[f,resolve,invoke,builtin,Sem.run_bind,Sem.run_pure,Result.andThen_ok,m9,dh,pz,i,X,g];exact h
section
variable {P:Program} {l:List Oper} {Q:Exit->Act->H->Prop} {S:H->Prop} {fuel:Nat} {listed:Array Bool} {a:Act} {w:H}
theorem a1L(i:Nat){d:Oper}(hi:nth l i=some d)
  (m:Region.noSelect l.toArray=true) (g:Region.free .any l.toArray listed i=true) (k:(Region.ready .any l.toArray listed).contains i=true)
  (e:∀ c a w,Q (.panic c) (a.put d.dst undef) w->Q (.panic c) a w) (j:Region.wanted d (yielded l.toArray a.tmps)=false) (f:S w)
  (h:wpAnyH P .any l.toArray Q S fuel (listed.setIfInBounds i true) (a.put d.dst undef) w):wpAnyH P .any l.toArray Q S (fuel+1) listed a w :=
 wpAnyH_take (vZ _ _ _ hi) m g k e (Or.inr ⟨j,rfl⟩) f h
end
def a6b(a b:eu):Bool:=D9 a.url b.url&&decide (a.words=b.words)
theorem b3i(a:eu):a6b a a=true:=by
 unfold a6b;rw[(MK _ _).mpr rfl,decide_eq_true rfl];rfl
theorem b34{y x:List eu}{k n:Nat}(c:k<y.length)(d:n<x.length):a7h a6b (y.drop k) (x.drop n)=if a6b y[k] x[n]=true then a7h a6b (y.drop (k+1)) (x.drop (n+1))+1 else a7h a6b (y.drop (k+1)) (x.drop n):=by
 rw[aC c,aC d,a7h]
theorem b35(p q:qh)(kind:Int)(l:List eu):a7h a6b (l.filter (jO (a5P p q) kind)) (l.filter (jO p kind))=(l.filter (jO p kind)).length :=
 b2B b3i _ _ (a8B (λ_ h=>b2h q h) l)
theorem b1Z{w:H}{d c e:Z}{p q:qh}(h:BB w d c e (a5P p q))(f:EL p)(g:EL q):f9 w d c e (a5P p q) :=
 ⟨h.s,h.h,h.t,by
  have a1:=f.s.1;have a2:=f.h.1;have a3:=f.t.1;have b1:=g.s.1;have G:=g.h.1;have b3:=g.t.1;unfold a5P;simp only[ae];omega,λy hy=>by
  rcases bO.mp hy with hy|hy
  ·exact am (g.h.2 y hy) P8
  exact am (f.h.2 y hy) P8⟩
section
variable {ops:Array Oper} {rest:List Oper} {o:Oper} {a:Act} {w:H} {Q:Exit->Act->H->Prop} {K:Act->H->Prop}
theorem gwi(d:Region.wanted o (yielded ops a.tmps)=true)(x:Operand)(e:o.op=.load 42 x)(b k:Nat)(T:TypeId)(cs:Array Z)(i:CB w b T cs)(v:Z)(c:cs[k]? = some v)(X:a.eval x=.pointer (some ⟨b,k,none⟩))(K:wpList prog ops Q rest (a.put o.dst v) w):wpList prog ops Q (o::rest) a w :=
 nj d v (bK 42 x e b k v _ underlying42 rfl X (i.aE c)) K
theorem b5i(w:H):(Instr.alloc 24 true (Value.tuple #[])).run prog w=.ok (.pointer (some ⟨w.heap.size,0,none⟩)) (w.alloc (.cells (aY aI aI aI 0) 24)):=Rz
theorem b5j(d:o.guard=none)(e:o.op=.alloc 24)(h:∀ c,OB w w.heap.size 24 (aY aI aI aI 0) c->wpList prog ops Q rest (a.put o.dst (.pointer (some ⟨w.heap.size,0,none⟩))) c):wpList prog ops Q (o::rest) a w :=
 aM d _ e _ _ (b5i w) (h _ (OB.fresh w _ _))
theorem b6o(w:H):(Instr.buildSlice 22 0 #[]).run prog w=.ok (.slice (some ⟨w.heap.size,0,none⟩) 0 0) (w.alloc (.cells #[] 9)):=Rz
theorem a8x(d:o.op=.buildSlice 22 0 #[])(h:∀ v c,c.ownsRow w.heap.size 9 1 v ([]:List O).length (Strs [])->r7 w c->K (a.put o.dst v) c):Oper.wp prog o a w K Q:=by
 unfold Oper.wp execOp;have e:(#[]:Array (Nat×Operand)).map (λ(i,x)=>(i,a.eval x))=#[]:=Oc;simp only[d,Sem.run_bind,Sem.run_pure,Result.andThen_ok,e,b6o];exact h _ _ (b4q w _) ((Below.refl _ _).alloc (ag _) _)
end
theorem filterMore_walk(p:qh)(sv hv tv:Z)(q:qh)(svq hvq tvq:Z)(t:ByteArray)(kind:Int)(rv:Z)(raw:O)(w:H)(hp:BB w sv hv tv p)(hpq:BB w svq hvq tvq q)(_:t.size<=maxLen)(_:(Lit.int .i64 kind).wf=true)(hr:Sl w.heap.size w rv (Lib.byteCells raw))(ub:t.size<=1048576)(hE:Env w)(hN:NE w) :
  bF prog 5 #[.agg (aY sv hv tv p.most),.agg (aY svq hvq tvq q.most),.string t,.int .i64 kind,rv] w (.bool true):=by
 have YF:=F<|λW (U:r7 w W)=>DM W (hE.below U) (hN.below U);have HF1:=F<|λW (U:r7 w W)=>KV p sv hv tv W (hp.below U);have Hs:=F<|λW (U:r7 w W)=>KV q svq hvq tvq W (hpq.below U);obtain⟨u,q3,h8,hqq,hba⟩:=a1D t w ub hE;have H8:=F h8;have HQ:=F hqq;have xt:=F hba;obtain⟨L,hL⟩:=V (raw.length)
 obtain⟨av,cv,rfl⟩:∃ a c,rv=.slice a L c:=by
  rcases AU hr with⟨rfl,a,c,rfl⟩|⟨b,o,c,_,_,rfl,_⟩
  ·exact⟨a,c,by rw[hL];rfl⟩
  exact⟨_,c,by rw[hL]⟩
 have HL:=F hL;have HP:=F hp;have HPQ:=F hpq;have HR:=F hr;have HE:=F hE;have HN:=F hN;obtain⟨W,hw,_,c1,c2,G⟩:=qd w 24 24 (aY sv hv tv p.most) (aY svq hvq tvq q.most);have C1:=F c1;have C2:=F c2;have B2:=F G;have HW:=F hw;clear c1 c2 G hw hL hp hpq hr hE hN h8 hqq hba;go_enter func5,ntmps5
 go_upto_region 1 with fail
 rw[HW.o]
 go_upto_region 3 with(first
  |(go_at_call 8;refine(YF.o _ B2.o).m ?_;rintro e w3 ⟨rfl,U⟩;have B3:=F<|dw B2.o U;have D1:=F<|C1.o.keep U;have D2:=F<|C2.o.keep U;clear U)
  |((with_reducible apply bS);refine fj r5 (.tmp 5) rfl w.heap.size sv hv tv p.most rfl D1.o ?_)
  |(go_at_call 9;refine(HF1.o _ B3.o).m ?_;rintro e w4 ⟨⟨b1,rfl,hf1⟩,U⟩;have F1:=F hf1;have B4:=F<|dw B3.o U;have E1:=F<|D1.o.keep U;have E2:=F<|D2.o.keep U;clear U hf1))
 go_upto_region 4 with(first
  |((with_reducible apply bS);refine fj r5 (.tmp 6) rfl (w.heap.size+1) svq hvq tvq q.most rfl E2.o ?_)
  |(go_at_call 9;refine(Hs.o _ B4.o).m ?_;rintro e w4' ⟨⟨b3,rfl,hf2⟩,U⟩;have F2:=F hf2;have B5:=F<|dw B4.o U;have G1:=F<|E1.o.keep U;have G2:=F<|E2.o.keep U;clear U hf2))
 go_upto_region 5 with(first
  |(go_at_call 10;refine(xt.o _ B5.o).m ?_;rintro e w5 ⟨A,rfl,Y,hs,_,U⟩;have B6:=F<|dw B5.o U;have I1:=F<|G1.o.keep U;have I2:=F<|G2.o.keep U;have S5:=F hs;have O5:=F Y;clear U hs Y)
  |((with_reducible apply bS);refine aM rfl 34 rfl _ _ (eD _) ?_;refine fL rfl (.tmp 14) (.tmp 35) rfl A u H8.o O5.o rfl rfl rfl ?_;intro w6 h3 U;have B7:=F<|dw B6.o U;have K:=F (show K27 w w6 p sv hv tv (.slice av L cv) raw w5.heap.size A u []from⟨B7.o,HE.o.below B7.o,HN.o.below B7.o,I1.o.keep U,HP.o.below B7.o,(HR.o.below B7.o).more B7.o.size,h3,(S5.o.below U).more U.size,λx X=>by cases X⟩);have b6O:=F<|I2.o.keep U;clear h3 U))
 obtain⟨g11,hg⟩:=V (w5.heap.size);rw[<-hg]at K ⊢;clear hg C1 C2 B2 HW YF HF1 Hs xt B3 D1 D2 B4 E1 E2 B5 G1 G2 B6 I1 I2 S5 O5 HE HN HP HR B7;cases b1 with
 |false =>
  go_wp2_with fail;go_ret;exact⟨rfl,K.o.b⟩
 |true =>
  cases b3 with
  |false =>
   go_wp2_with fail;go_ret;exact⟨rfl,K.o.b⟩
  |true =>
   cases q3 with
   |false =>
    go_wp2_with fail;go_ret;exact⟨rfl,K.o.b⟩
   |true =>
    by_cases h3:(300:Int)<L
    ·go_wp2_with fail
     go_ret;exact⟨rfl,K.o.b⟩
    by_cases h0:kind<0
    ·go_wp2_with fail
     go_ret;exact⟨rfl,K.o.b⟩
    obtain⟨el,hel⟩:=V (S (a1k kind).1);obtain⟨nm,hnm⟩:=V (S (a1k kind).2);have Z5:=F<|λW=>(show bP prog 11 #[.int .i64 kind] W (.tuple #[el,nm])from by rw[hel,hnm];exact a1P kind W M0);obtain⟨kd,hkd⟩:=V (gA (a1k kind).1 (a1k kind).2)
    have W4:=F<|λW=>(show bF prog 14 #[el,nm] W (.int .i64 kd)from by
     rw[hel,hnm,hkd];have:=a1R kind;exact Dc _ _ W M0 M0)
    obtain⟨U,ht⟩:=HQ.o rfl;have hlr:raw.length<=300:=by have:=HL.o;omega
    have hf1:=F1.o rfl;have hf2:=F2.o rfl;obtain⟨b3I,hV1⟩:=V (dQ p u (a1k kind).1 (a1k kind).2 raw);obtain⟨b2Q,hV2⟩:=V (dQ (a5P p q) u (a1k kind).1 (a1k kind).2 raw)
    have TM:=F<|λW (h:K27 w W p sv hv tv (.slice av L cv) raw g11 A u [])=>(show bF prog 12 #[.agg (aY sv hv tv p.most),.agg (ai A u),el,nm,.slice av L cv] W (.agg (vF b3I))from by
     rw[hel,hnm,hV1];exact h.call hf1 U ht kind h.r (vw p (T:=300) ⟨M0,M0⟩ ht U hlr))
    have TO:=F<|λ(v1 v2 v3:Z) W (h:K27 w6 W (a5P p q) v1 v2 v3 (.slice av L cv) raw g11 A u [])=>(show bF prog 12 #[.agg (aY v1 v2 v3 p.most),.agg (ai A u),el,nm,.slice av L cv] W (.agg (vF b2Q))from by
     rw[hel,hnm,hV2];exact h.b43 (b1Z h.v hf1 hf2) U ht kind h.r (vw (a5P p q) (T:=300) ⟨M0,M0⟩ ht U hlr))
    have HMV:=F (show b3I.kind=3->b2Q.why≠3/\b2Q.why≠4 from λh=>by rw[hV1]at h;rw[hV2];exact b2C q h);have fl:=vw p (kind:=kd) (T:=300) ⟨M0,M0⟩ ht U hlr;obtain⟨R,hR⟩:=V (mg kd u (jw raw));have hil:=Pn fl;rw[<-hR]at hil
    have Be:=F<|λW (h:K27 w W p sv hv tv (.slice av L cv) raw g11 A u [])=>(show Calls prog 13 #[.int .i64 kd,.agg (ai A u),.slice av L cv] W (jz W R)from by
     rw[hR];exact Du kd u A raw _ W H8.o h.s (a2s (s:=ls t) M0 U).b h.r (WD kd M0) h.e)
    obtain⟨d,hd⟩:=V (R.delay);obtain⟨X',hX⟩:=V (R.items.filter (jO p kd));obtain⟨Y',hY⟩:=V (R.items.filter (jO (a5P p q) kd))
    have HKP:=F<|λ(v:Z) W (h:K27 w W p sv hv tv (.slice av L cv) raw g11 A u []) (hi:fa W 0 v R.items)=>(show Calls prog 18 #[.agg (aY sv hv tv p.most),.int .i64 kd,.agg (bD v d)] W (jz W ⟨X',d⟩)from by
     rw[hX];exact LB p kd R.items d v sv hv tv W (hi.iok hil) hil (h.v.at hf1) h.e h.n)
    have HKA:=F<|λ(v1 v2 v3 v:Z) W (h:K27 w6 W (a5P p q) v1 v2 v3 (.slice av L cv) raw g11 A u []) (hi:fa W 0 v R.items)=>(show Calls prog 18 #[.agg (aY v1 v2 v3 p.most),.int .i64 kd,.agg (bD v d)] W (jz W ⟨Y',d⟩)from by
     rw[hY];exact LB (a5P p q) kd R.items d v v1 v2 v3 W (hi.iok hil) hil (b1Z h.v hf1 hf2) h.e h.n)
    have HM0:=F (show a7h a6b Y' X'=X'.length by rw[hY,hX];exact b35 p q kd R.items);have HUY:=F (show ∀i∈Y',zK i.url from λi hi=>(hil.u i (a3J.mp (by rw[hY]at hi;exact hi)).1).1);have HUX:=F (show ∀i∈X',zK i.url from λi hi=>(hil.u i (a3J.mp (by rw[hX]at hi;exact hi)).1).1);obtain⟨NX,hNX⟩:=V (X'.length);obtain⟨D,hNY⟩:=V (Y'.length);have hnn:=dO (jO p kd) R.items;have b6R:=dO (jO (a5P p q) kd) R.items;have hnr:=hil.n;rw[<-hX,<-hNX]at hnn;rw[<-hY,<-hNY]at b6R;have c3M:NX<=900000000:=M0;have c3N:D<=900000000:=M0;have TD:=F hNX;have HNY:=F hNY;have HD:=F hd
    have HZZ:=F (show(q.schemes.length+p.schemes.length<=1024000000)/\(q.hosts.length+p.hosts.length<=1024000000)/\(q.types.length+p.types.length<=1024000000)from by
     have a1:=hf1.s.1;have a2:=hf1.h.1;have a3:=hf1.t.1;have b1:=hf2.s.1;have G:=hf2.h.1;have b3:=hf2.t.1;omega)
    have b6c:=F<|HPQ.o.below K.o.b;clear hel hnm hkd U ht hlr hf1 hf2 hV1 hV2 fl hR hil hd hX hY hNX hNY hnn b6R hnr F1 F2 HQ HL HPQ
    go_upto_region 8 with(first
     |((with_reducible apply bS);refine b5j rfl rfl ?_;intro w16 i16;have I16:=F i16;clear i16))
    obtain⟨g16,hg⟩:=V (w6.heap.size);rw[<-hg]at I16 ⊢;have HG:=F hg;clear hg;have HQC:=F<|λ(i:Nat) (v:Z) (hv:(aY svq hvq tvq q.most)[i]? = some v) W (h:∃ cs,OB w6 g16 24 cs W)=>(show W.cell? ⟨w.heap.size+1,i,none⟩=some v from by obtain⟨cs,h⟩:=h;exact(b6O.o.keep h.bL).aE hv);have HPC:=F<|λ(i:Nat) (v:Z) (hv':(aY sv hv tv p.most)[i]? = some v) W (h:∃ cs,OB w6 g16 24 cs W)=>(show W.cell? ⟨w.heap.size,i,none⟩=some v from by obtain⟨cs,h⟩:=h;exact(K.o.c.keep h.bL).aE hv');have HVQ:=F<|λW (h:∃ cs,OB w6 g16 24 cs W)=>(show BB W svq hvq tvq q from by obtain⟨cs,h⟩:=h;exact b6c.o.below h.bL);have HVP:=F<|λW (h:∃ cs,OB w6 g16 24 cs W)=>(show BB W sv hv tv p from by obtain⟨cs,h⟩:=h;exact K.o.v.below h.bL);have B:=F<|I16.o.below (bG (bg _));refine wp_region_held_drew (S:=λW=>∃ cs,OB w6 g16 24 cs W) Rz (by first|exact⟨_,f.o⟩|exact⟨_,B.o⟩) (λhHeld=>?_);refine ek 1 ?_;refine tq 2 rfl ?_ (λwS hSw=>?_) ?_;rotate_left
    ·(try dsimp only at hSw)
     refine bK 22 (.tmp 58) ?_ (w.heap.size+1) 0 svq _ underlying22 rfl ?_ (HQC.o 0 svq rfl _ hSw)
     ·rfl
     rfl
    try simp only[Act.put,fH,fI,fJ]
    refine ek 4 ?_;refine tq 5 rfl ?_ (λwS hSw=>?_) ?_;rotate_left
    ·(try dsimp only at hSw)
     refine bK 22 (.tmp 61) ?_ w.heap.size 0 sv _ underlying22 rfl ?_ (HPC.o 0 sv rfl _ hSw)
     ·rfl
     rfl
    try simp only[Act.put,fH,fI,fJ]
    refine rn 0 Rz rfl r5 (λK hK=>?_);refine a8x rfl ?_;intro b45 wa oa U;have C:=F oa;have HB:=F U;have f:=F<|B.o.below U;clear oa U;refine hK.out _ _ ?_ (λhHeld=>?_)
    ·first|exact⟨_,f.o⟩|exact⟨_,B.o⟩
    clear hK K
    try simp only[Act.put,fH,fI,fJ]
    refine rn 3 Rz rfl r5 (λK hK=>?_);obtain⟨vb,wb,hr,ob,U⟩:=a6f (l:=[]) (m:=q.schemes) C.o HB.o.size (HVQ.o _ ⟨_,f.o⟩).s (by have:=HZZ.o;simp only[aO];omega) 22;refine a1V (.tmp 57) (.tmp 59) 22 22 rfl b45 svq vb wb rfl rfl hr ?_;have C:=F (show wb.ownsRow _ 9 1 vb (q.schemes).length (Strs (q.schemes))from ob);have HB:=F<|HB.o.trans U;have f:=F<|B.o.below HB.o;clear ob U hr;refine hK.out _ _ ?_ (λhHeld=>?_)
    ·first|exact⟨_,f.o⟩|exact⟨_,B.o⟩
    clear hK K
    try simp only[Act.put,fH,fI,fJ]
    refine rn 6 Rz rfl r5 (λK hK=>?_);obtain⟨v1,wc,hr,ob,U⟩:=a6f (l:=q.schemes) (m:=p.schemes) C.o HB.o.size (HVP.o _ ⟨_,f.o⟩).s (by have:=HZZ.o;omega) 22;refine a1V (.tmp 60) (.tmp 62) 22 22 rfl vb sv v1 wc rfl rfl hr ?_;have C:=F ob;have HB:=F<|HB.o.trans U;have f:=F<|B.o.below HB.o;clear ob U hr;refine hK.out _ _ ?_ (λhHeld=>?_)
    ·first|exact⟨_,f.o⟩|exact⟨_,B.o⟩
    clear hK K
    try simp only[Act.put,fH,fI,fJ]
    refine ek 7 ?_;refine rn 8 Rz rfl r5 (λK hK=>?_);refine fX 22 (.tmp 64) (.tmp 63) rfl w6 g16 24 (aY aI aI aI 0) f.o 0 v1 rfl rfl (by show 0<4;decide) dC (bm C.o) (aY v1 aI aI 0) rfl ?_;intro b5l id M
    try have R1:=F<|M.row (own_below' R1.o HB.o) (bV _)
    try have R2:=F<|M.row (own_below' R2.o HB.o) (bV _)
    have R1:=F<|il (base':=g16+1) (M.row C.o B.o.lt) B.o.lt;have B:=F id;have f:=B;clear id M C HB;refine hK.out _ _ ?_ (λhHeld=>?_)
    ·first|exact⟨_,f.o⟩|exact⟨_,B.o⟩
    clear hK K
    try simp only[Act.put]
    refine wpAnyH_done Rz ?_ _;clear f
    go_upto_region 9 with fail
    have B:=F<|B.o.below (bG (bg _));have R1:=F<|own_below' R1.o (bG (bg _));refine wp_region_held_drew (S:=λW=>∃ cs,OB w6 g16 24 cs W) Rz (by first|exact⟨_,f.o⟩|exact⟨_,B.o⟩) (λhHeld=>?_);refine ek 1 ?_;refine tq 2 rfl ?_ (λwS hSw=>?_) ?_;rotate_left
    ·(try dsimp only at hSw)
     refine bK 22 (.tmp 66) ?_ (w.heap.size+1) 1 hvq _ underlying22 rfl ?_ (HQC.o 1 hvq rfl _ hSw)
     ·rfl
     rfl
    try simp only[Act.put,fH,fI,fJ]
    refine ek 4 ?_;refine tq 5 rfl ?_ (λwS hSw=>?_) ?_;rotate_left
    ·(try dsimp only at hSw)
     refine bK 22 (.tmp 69) ?_ w.heap.size 1 hv _ underlying22 rfl ?_ (HPC.o 1 hv rfl _ hSw)
     ·rfl
     rfl
    try simp only[Act.put,fH,fI,fJ]
    refine rn 0 Rz rfl r5 (λK hK=>?_);refine a8x rfl ?_;intro b45 wa oa U;have C:=F oa;have HB:=F U;have f:=F<|B.o.below U;clear oa U;refine hK.out _ _ ?_ (λhHeld=>?_)
    ·first|exact⟨_,f.o⟩|exact⟨_,B.o⟩
    clear hK K
    try simp only[Act.put,fH,fI,fJ]
    refine rn 3 Rz rfl r5 (λK hK=>?_);obtain⟨vb,wb,hr,ob,U⟩:=a6f (l:=[]) (m:=q.hosts) C.o HB.o.size (HVQ.o _ ⟨_,f.o⟩).h (by have:=HZZ.o;simp only[aO];omega) 22;refine a1V (.tmp 65) (.tmp 67) 22 22 rfl b45 hvq vb wb rfl rfl hr ?_;have C:=F (show wb.ownsRow _ 9 1 vb (q.hosts).length (Strs (q.hosts))from ob);have HB:=F<|HB.o.trans U;have f:=F<|B.o.below HB.o;clear ob U hr;refine hK.out _ _ ?_ (λhHeld=>?_)
    ·first|exact⟨_,f.o⟩|exact⟨_,B.o⟩
    clear hK K
    try simp only[Act.put,fH,fI,fJ]
    refine rn 6 Rz rfl r5 (λK hK=>?_);obtain⟨v2,wc,hr,ob,U⟩:=a6f (l:=q.hosts) (m:=p.hosts) C.o HB.o.size (HVP.o _ ⟨_,f.o⟩).h (by have:=HZZ.o;omega) 22;refine a1V (.tmp 68) (.tmp 70) 22 22 rfl vb hv v2 wc rfl rfl hr ?_;have C:=F ob;have HB:=F<|HB.o.trans U;have f:=F<|B.o.below HB.o;clear ob U hr;refine hK.out _ _ ?_ (λhHeld=>?_)
    ·first|exact⟨_,f.o⟩|exact⟨_,B.o⟩
    clear hK K
    try simp only[Act.put,fH,fI,fJ]
    refine ek 7 ?_;refine rn 8 Rz rfl r5 (λK hK=>?_);refine fX 22 (.tmp 72) (.tmp 71) rfl w6 g16 24 (aY v1 aI aI 0) f.o 1 v2 rfl rfl (by show 1<4;decide) dC (bm C.o) (aY v1 v2 aI 0) rfl ?_;intro b5l id M
    try have R1:=F<|M.row (own_below' R1.o HB.o) (bV _)
    try have R2:=F<|M.row (own_below' R2.o HB.o) (bV _)
    have R2:=F<|il (base':=g16+1) (M.row C.o B.o.lt) B.o.lt;have B:=F id;have f:=B;clear id M C HB;refine hK.out _ _ ?_ (λhHeld=>?_)
    ·first|exact⟨_,f.o⟩|exact⟨_,B.o⟩
    clear hK K
    try simp only[Act.put]
    refine wpAnyH_done Rz ?_ _;clear f
    go_upto_region 10 with fail
    have B:=F<|B.o.below (bG (bg _));have R1:=F<|own_below' R1.o (bG (bg _));have R2:=F<|own_below' R2.o (bG (bg _));refine wp_region_held_drew (S:=λW=>∃ cs,OB w6 g16 24 cs W) Rz (by first|exact⟨_,f.o⟩|exact⟨_,B.o⟩) (λhHeld=>?_);refine ek 1 ?_;refine tq 2 rfl ?_ (λwS hSw=>?_) ?_;rotate_left
    ·(try dsimp only at hSw)
     refine bK 22 (.tmp 74) ?_ (w.heap.size+1) 2 tvq _ underlying22 rfl ?_ (HQC.o 2 tvq rfl _ hSw)
     ·rfl
     rfl
    try simp only[Act.put,fH,fI,fJ]
    refine ek 4 ?_;refine tq 5 rfl ?_ (λwS hSw=>?_) ?_;rotate_left
    ·(try dsimp only at hSw)
     refine bK 22 (.tmp 77) ?_ w.heap.size 2 tv _ underlying22 rfl ?_ (HPC.o 2 tv rfl _ hSw)
     ·rfl
     rfl
    try simp only[Act.put,fH,fI,fJ]
    refine rn 0 Rz rfl r5 (λK hK=>?_);refine a8x rfl ?_;intro b45 wa oa U;have C:=F oa;have HB:=F U;have f:=F<|B.o.below U;clear oa U;refine hK.out _ _ ?_ (λhHeld=>?_)
    ·first|exact⟨_,f.o⟩|exact⟨_,B.o⟩
    clear hK K
    try simp only[Act.put,fH,fI,fJ]
    refine rn 3 Rz rfl r5 (λK hK=>?_);obtain⟨vb,wb,hr,ob,U⟩:=a6f (l:=[]) (m:=q.types) C.o HB.o.size (HVQ.o _ ⟨_,f.o⟩).t (by have:=HZZ.o;simp only[aO];omega) 22;refine a1V (.tmp 73) (.tmp 75) 22 22 rfl b45 tvq vb wb rfl rfl hr ?_;have C:=F (show wb.ownsRow _ 9 1 vb (q.types).length (Strs (q.types))from ob);have HB:=F<|HB.o.trans U;have f:=F<|B.o.below HB.o;clear ob U hr;refine hK.out _ _ ?_ (λhHeld=>?_)
    ·first|exact⟨_,f.o⟩|exact⟨_,B.o⟩
    clear hK K
    try simp only[Act.put,fH,fI,fJ]
    refine rn 6 Rz rfl r5 (λK hK=>?_);obtain⟨v3,wc,hr,ob,U⟩:=a6f (l:=q.types) (m:=p.types) C.o HB.o.size (HVP.o _ ⟨_,f.o⟩).t (by have:=HZZ.o;omega) 22;refine a1V (.tmp 76) (.tmp 78) 22 22 rfl vb tv v3 wc rfl rfl hr ?_;have C:=F ob;have HB:=F<|HB.o.trans U;have f:=F<|B.o.below HB.o;clear ob U hr;refine hK.out _ _ ?_ (λhHeld=>?_)
    ·first|exact⟨_,f.o⟩|exact⟨_,B.o⟩
    clear hK K
    try simp only[Act.put,fH,fI,fJ]
    refine ek 7 ?_;refine rn 8 Rz rfl r5 (λK hK=>?_);refine fX 22 (.tmp 80) (.tmp 79) rfl w6 g16 24 (aY v1 v2 aI 0) f.o 2 v3 rfl rfl (by show 2<4;decide) dC (bm C.o) (aY v1 v2 v3 0) rfl ?_;intro b5l id M
    try have R1:=F<|M.row (own_below' R1.o HB.o) (bV _)
    try have R2:=F<|M.row (own_below' R2.o HB.o) (bV _)
    have R3:=F<|il (base':=g16+1) (M.row C.o B.o.lt) B.o.lt;have B:=F id;have f:=B;clear id M C HB;refine hK.out _ _ ?_ (λhHeld=>?_)
    ·first|exact⟨_,f.o⟩|exact⟨_,B.o⟩
    clear hK K
    try simp only[Act.put]
    refine wpAnyH_done Rz ?_ _;clear f
    go_upto_region 12 with(first
     |((with_reducible apply bS);refine tY r5 (.tmp 81) rfl w.heap.size 3 24 (aY sv hv tv p.most) (K.o.c.keep B.o.bL) (.int .i64 p.most) rfl rfl ?_)
     |((with_reducible apply bS);refine dX rfl 3 (.tmp 83) (.tmp 82) rfl w6 g16 24 (aY v1 v2 v3 0) B.o 3 (.int .i64 p.most) rfl rfl (by show 3<4;decide) Rz rfl (aY v1 v2 v3 p.most) rfl ?_;intro wf i17 t17;have I17:=F i17;have T17:=F t17;clear i17 t17))
    have J:=F<|K.o.below I17.o.bL;have b1r:=F (show K27 w6 wf (a5P p q) v1 v2 v3 (.slice av L cv) raw g11 A u []from⟨I17.o.bL,J.o.e,J.o.n,by rw[<-HG.o];exact I17.o.cb,⟨Sl.ew (sB (T17.o.row R1.o (bV _))),Sl.ew (sB (T17.o.row R2.o (bV _))),Sl.ew (sB (T17.o.row R3.o (bV _)))⟩,J.o.r,J.o.y,J.o.s,J.o.l⟩);clear B R1 R2 R3 I16 I17 T17 HQC HPC HVQ HVP b6c HZZ b6O K
    go_upto_region 15 with(first
     |(go_at_call 11;refine(Z5.o _).m ?_;rintro e w7 ⟨rfl,hw⟩;subst hw)
     |(go_at_call 14;refine(W4.o _).m ?_;rintro e w8 ⟨rfl,U⟩;have KP8:=F<|J.o.below U;have KA8:=F<|b1r.o.below U;clear U)
     |((with_reducible apply bS);refine cR r5 (.tmp 14) rfl g11 A u H8.o rfl KP8.o.y ?_)
     |(go_at_call 13;refine(Be.o _ KP8.o).m ?_;rintro e w9 ⟨v4,rfl,ir,U⟩;have TR:=F<|ir.base (aL _);have KP9:=F<|KP8.o.below U;have KA9:=F<|KA8.o.below U;clear U ir)
     |((with_reducible apply bS);refine aM rfl 44 rfl _ _ (pC _) ?_;refine JH rfl (.tmp 20) (.tmp 95) rfl v4 R.delay (fa.one' TR.o) rfl rfl rfl ?_;rw[<-HD.o];intro wa i5;have I5:=F i5;clear i5))
    have KPa:=F<|KP9.o.below I5.o.bL;have KAa:=F<|KA9.o.below I5.o.bL;have IRa:=F<|TR.o.below I5.o.bL;obtain⟨g20,hg⟩:=V (w9.heap.size);have C20:=F I5.o.cb;rw[<-hg]at C20 ⊢;clear hg J b1r KP8 KA8 KP9 KA9 TR I5 Z5 W4 Be
    go_upto_region 16 with(first
     |((with_reducible apply bS);refine fj r5 (.tmp 5) rfl w.heap.size sv hv tv p.most rfl KPa.o.c ?_)
     |((with_reducible apply bS);refine vR r5 44 (.tmp 20) rfl g20 (bD v4 d) _ underlying44 rfl mS rfl C20.o ?_)
     |(go_at_call 18;refine(HKP.o _ _ KPa.o IRa.o).m ?_;rintro e wb ⟨c0z,rfl,ir,U⟩;have IXb:=F<|ir.base (aL _);have KPb:=F<|KPa.o.below U;have KAb:=F<|KAa.o.below U;have IRb:=F<|IRa.o.below U;have b6u:=F<|C20.o.keep U;clear U ir)
     |((with_reducible apply bS);refine aM rfl 44 rfl _ _ (pC _) ?_;refine JH rfl (.tmp 21) (.tmp 99) rfl c0z d (fa.one' IXb.o) rfl rfl rfl ?_;intro wc i5;have I6:=F i5;clear i5))
    have KPc:=F<|KPb.o.below I6.o.bL;have KAc:=F<|KAb.o.below I6.o.bL;have IRc:=F<|IRb.o.below I6.o.bL;have IXc:=F<|IXb.o.below I6.o.bL;have b6v:=F<|b6u.o.keep I6.o.bL;obtain⟨g21,hg⟩:=V (wb.heap.size);have D21:=F I6.o.cb;rw[<-hg]at D21 ⊢;clear hg KPa KAa IRa C20 KPb KAb IRb IXb b6u I6 HKP
    go_upto_region 17 with(first
     |((with_reducible apply bS);refine fj r5 (.tmp 16) rfl g16 v1 v2 v3 p.most rfl (by rw[HG.o];exact KAc.o.c) ?_)
     |((with_reducible apply bS);refine vR r5 44 (.tmp 20) rfl g20 (bD v4 d) _ underlying44 rfl mS rfl b6v.o ?_)
     |(go_at_call 18;refine(HKA.o _ _ _ _ _ KAc.o IRc.o).m ?_;rintro e b5l ⟨a2L,rfl,ir,U⟩;have IYd:=F<|ir.base (aL _);have KPd:=F<|KPc.o.below U;have KAd:=F<|KAc.o.below U;have IXd:=F<|IXc.o.below U;have b5Z:=F<|D21.o.keep U;clear U ir)
     |((with_reducible apply bS);refine aM rfl 44 rfl _ _ (pC _) ?_;refine JH rfl (.tmp 22) (.tmp 103) rfl a2L d (fa.one' IYd.o) rfl rfl rfl ?_;intro c5f i5;have I7:=F i5;clear i5))
    have KPe:=F<|KPd.o.below I7.o.bL;have KAe:=F<|KAd.o.below I7.o.bL;have IXe:=F<|IXd.o.below I7.o.bL;have IYe:=F<|IYd.o.below I7.o.bL;have b50:=F<|b5Z.o.keep I7.o.bL;obtain⟨g22,hg⟩:=V (b5l.heap.size);have b5c:=F I7.o.cb;rw[<-hg]at b5c ⊢;obtain⟨b5K,b2U,b60⟩:=IXe.o.len;obtain⟨b5L,b22,b61⟩:=IYe.o.len;rw[<-TD.o]at b60;rw[<-HNY.o]at b61;subst b60 b61;clear hg KPc KAc IRc IXc b6v D21 KPd KAd IXd IYd b5Z I7 HKA;go_wp2_with fail
    go_loopw [23,24] (λnv iv wr=>∃ n k:Nat,n<=NX/\k<=D/\nv=.int .i64 n/\iv=.int .i64 k/\Hid (a7h a6b (Y'.drop k) (X'.drop n)+n=NX)/\Hid (K27 w wr p sv hv tv (.slice av L cv) raw g11 A u [])/\Hid (K27 w6 wr (a5P p q) v1 v2 v3 (.slice av L cv) raw g11 A u [])/\Hid (CB wr g21 44 (bD (.slice b5K NX b2U) d))/\Hid (CB wr g22 44 (bD (.slice b5L D b22) d))/\Hid (fa wr 0 (.slice b5K NX b2U) X')/\Hid (fa wr 0 (.slice b5L D b22) Y')) (λ_ i _=>D-(intOf i).toNat)
    case atStart=>exact⟨0,0,aL _,aL _,rfl,rfl,F (by rw[dP,dP,HM0.o,TD.o];rfl),KPe,KAe,b50,b5c,IXe,IYe⟩
    case round =>
     clear KPe KAe IXe IYe b50 b5c;obtain⟨n,k,hn,hk,rfl,rfl,HM,J,b1r,b3E,b3H,B,f⟩:=hrel;have f1:wr.cell? ⟨g22,0,none⟩=some (.slice b5L D b22):=b3H.o.aE rfl;have f2:wr.cell? ⟨g21,0,none⟩=some (.slice b5K NX b2U):=b3E.o.aE rfl;by_cases hkn:k<D/\n<NX
     ·obtain⟨hkY,hnX⟩:=hkn
      have hkl:k<Y'.length:=by have:=HNY.o;omega
      have hnl:n<X'.length:=by have:=TD.o;omega
      obtain⟨a8m,p1,a4j,_,ET⟩:=f.o.open (λh=>by rw[h]at hkl;exact absurd hkl (cL _));obtain⟨b3C,b4j,b5g,ipy⟩:=ET k hkl;rw[<-HNY.o]at a4j;injection a4j with a4j x1 x2
      clear x1 x2 ET;subst a4j;obtain⟨N,p2,a4j,_,ET⟩:=B.o.open (λh=>by rw[h]at hnl;exact absurd hnl (cL _));obtain⟨b3B,wx,cx,ipx⟩:=ET n hnl;rw[<-TD.o]at a4j;injection a4j with a4j x1 x2
      clear x1 x2 ET;subst a4j;have hmc:=b34 hkl hnl;obtain⟨iA,hiA⟩:=V (Y'[k]);obtain⟨iB,hiB⟩:=V (X'[n]);have hA:=HUY.o iA (by rw[hiA];exact be hkl);have hB:=HUX.o iB (by rw[hiB];exact be hnl);rw[<-hiA]at b5g ipy hmc;rw[<-hiB]at cx ipx hmc;have b51:∀ W,r7 wr W->W.rangeAt a8m (k*25) (bN b3C b4j iA):=λW U j x hj=>(U.cell (p:=⟨a8m,k*25+j,none⟩) (World.block_lt_of_cell? _ _ (b5g j x hj))).trans (b5g j x hj);have b5Y:∀ W,r7 wr W->W.rangeAt N (n*25) (bN b3B wx iB):=λW U j x hj=>(U.cell (p:=⟨N,n*25+j,none⟩) (World.block_lt_of_cell? _ _ (cx j x hj))).trans (cx j x hj);have HRY:=F<|λW (U:r7 wr W)=>(show W.rangeAt a8m (k*25+1) (cu b3C iA.url)from λj x hj=>by rw[EK];exact b51 W U (1+j) x (a0k hj));have rF:=F<|λW (U:r7 wr W)=>(show W.rangeAt N (n*25+1) (cu b3B iB.url)from λj x hj=>by rw[EK];exact b5Y W U (1+j) x (a0k hj));have HGA:=F<|λW (U:r7 wr W)=>(show W.cell? ⟨g22,0,none⟩=some (.slice (some ⟨a8m,0,none⟩) D b22)/\W.cell? ⟨g21,0,none⟩=some (.slice (some ⟨N,0,none⟩) NX b2U)/\W.cell? ⟨a8m,k*25+24,none⟩=some b4j/\W.cell? ⟨N,n*25+24,none⟩=some wx from⟨(b3H.o.keep U).aE rfl,(b3E.o.keep U).aE rfl,b51 W U 24 b4j (a0l hA.six),b5Y W U 24 wx (a0l hB.six)⟩);have MV:=F (show(prog.info? 34).map (·.size)=some (cu b3C iA.url).length by rw[oF hA.six];exact iJ);have ug:=F (show(prog.info? 34).map (·.size)=some (cu b3B iB.url).length by rw[oF hB.six];exact iJ);obtain⟨q1,hq1⟩:=V (D9 iA.url iB.url);obtain⟨q2,hq2⟩:=V (decide (iA.words=iB.words))
      have HS1:=F<|λW (U:r7 wr W)=>(show bF prog 19 #[.agg (ai b3C iA.url),.agg (ai b3B iB.url)] W (.bool q1)from by
       refine(RT iA.url iB.url b3C b3B W hA.six hB.six (((Sl.ew (sB ipy.path)).below U).more U.size) (((Sl.ew (sB ipx.path)).below U).more U.size) (ag _) (ag _) (by have:=hA.E.1;omega) (by have:=hB.E.1;omega)).m ?_;rintro e w' ⟨z,rfl,hz,hb'⟩;have:z=q1:=by rw[hq1,bX,hz,MK]
       rw[this];exact⟨rfl,hb'⟩)
      have HS2:=F<|λW (U:r7 wr W)=>(show bF prog 20 #[b4j,wx] W (.bool q2)from by
       rw[hq2];exact b3s _ _ b4j wx W _ _ (((Sl.ew (sB ipy.words)).below U).more U.size) (((Sl.ew (sB ipx.words)).below U).more U.size))
      have HMC:=F (show a7h a6b (Y'.drop k) (X'.drop n)=if(q1&&q2)=true then a7h a6b (Y'.drop (k+1)) (X'.drop (n+1))+1 else a7h a6b (Y'.drop (k+1)) (X'.drop n)from by rw[hq1,hq2];exact hmc);have c3T:(k:Int)<(D:Int):=M0;have c30:(n:Int)<(NX:Int):=M0;clear hmc hiA hiB hA hB b5g ipy cx ipx b51 b5Y hq1 hq2 hkl hnl;cases q1 with
      |false =>
       have W7:=F (show a7h a6b (Y'.drop (k+1)) (X'.drop n)+n=NX by have h:=HM.o;rw[HMC.o]at h;exact h)
       go_upto_region 21 with fail
       refine wp_region_held_drew (S:=λW=>r7 wr W) Rz (by first|exact hHeld|exact bG (bg _)|exact g.o) (λhHeld=>?_);refine ek 0 ?_;refine tq 1 rfl ?_ (λwS hSw=>?_) ?_;rotate_left
       ·(try dsimp only at hSw)
        refine bK 42 (.tmp 118) ?_ g22 0 (.slice (some ⟨a8m,0,none⟩) D b22) _ underlying42 rfl ?_ (HGA.o _ hSw).1
        ·rfl
        rfl
       try simp only[Act.put,fH,fI,fJ]
       refine ek 2 ?_;refine ek 3 ?_;refine ek 4 ?_;refine tq 5 rfl ?_ (λwS hSw=>?_) ?_;rotate_left
       ·(try dsimp only at hSw)
        refine gU 34 (.tmp 122) ?_ a8m (k*25+1) (cu b3C iA.url) _ underlying34 rfl MV.o ?_ (HRY.o _ hSw)
        ·rfl
        rfl
       try simp only[Act.put,fH,fI,fJ]
       refine ek 6 ?_;refine tq 7 rfl ?_ (λwS hSw=>?_) ?_;rotate_left
       ·(try dsimp only at hSw)
        refine bK 42 (.tmp 124) ?_ g21 0 (.slice (some ⟨N,0,none⟩) NX b2U) _ underlying42 rfl ?_ (HGA.o _ hSw).2.1
        ·rfl
        rfl
       try simp only[Act.put,fH,fI,fJ]
       refine ek 8 ?_;refine ek 9 ?_;refine ek 10 ?_;refine tq 11 rfl ?_ (λwS hSw=>?_) ?_;rotate_left
       ·(try dsimp only at hSw)
        refine gU 34 (.tmp 128) ?_ N (n*25+1) (cu b3B iB.url) _ underlying34 rfl ug.o ?_ (rF.o _ hSw)
        ·rfl
        rfl
       try simp only[Act.put,fH,fI,fJ]
       refine rn 12 Rz rfl r5 (λK hK=>?_)
       go_simp
       refine(HS1.o _ hHeld).m ?_;rintro e w6x ⟨rfl,U⟩;have g:=F<|hHeld.trans (U.m hHeld.size);clear U;refine hK.out _ _ ?_ (λhHeld=>?_)
       ·first|exact hHeld|exact bG (bg _)|exact g.o
       clear hK K
       try simp only[Act.put,fH,fI,fJ]
       refine ek 13 ?_;refine a1L 14 rfl Rz Rz Rz (λ_ _ _ h=>h) r5 (by assumption) ?_
       try simp only[Act.put,fH,fI,fJ]
       refine a1L 15 rfl Rz Rz Rz (λ_ _ _ h=>h) r5 (by assumption) ?_
       try simp only[Act.put,fH,fI,fJ]
       refine a1L 16 rfl Rz Rz Rz (λ_ _ _ h=>h) r5 (by assumption) ?_
       try simp only[Act.put,fH,fI,fJ]
       refine a1L 17 rfl Rz Rz Rz (λ_ _ _ h=>h) r5 (by assumption) ?_
       try simp only[Act.put,fH,fI,fJ]
       refine a1L 18 rfl Rz Rz Rz (λ_ _ _ h=>h) r5 (by assumption) ?_
       try simp only[Act.put,fH,fI,fJ]
       refine a1L 19 rfl Rz Rz Rz (λ_ _ _ h=>h) r5 (by assumption) ?_
       try simp only[Act.put,fH,fI,fJ]
       refine a1L 20 rfl Rz Rz Rz (λ_ _ _ h=>h) r5 (by assumption) ?_
       try simp only[Act.put,fH,fI,fJ]
       refine a1L 21 rfl Rz Rz Rz (λ_ _ _ h=>h) r5 (by assumption) ?_
       try simp only[Act.put,fH,fI,fJ]
       refine a1L 22 rfl Rz Rz Rz (λ_ _ _ h=>h) r5 (by assumption) ?_
       try simp only[Act.put,fH,fI,fJ]
       refine a1L 23 rfl Rz Rz Rz (λ_ _ _ h=>h) r5 (by assumption) ?_
       try simp only[Act.put,fH,fI,fJ]
       refine a1L 24 rfl Rz Rz Rz (λ_ _ _ h=>h) r5 (by assumption) ?_
       try simp only[Act.put,fH,fI,fJ]
       refine a1L 25 rfl Rz Rz Rz (λ_ _ _ h=>h) r5 (by assumption) ?_
       try simp only[Act.put,fH,fI,fJ]
       refine a1L 26 rfl Rz Rz Rz (λ_ _ _ h=>h) r5 (by assumption) ?_
       try simp only[Act.put,fH,fI,fJ]
       refine ek 27 ?_;refine wpAnyH_done Rz ?_ _;go_wp2_with fail;go_roundw
       case rel=>exact⟨n,k+1,M0,M0,rfl,by go_num,W7,F (J.o.below g.o),F (b1r.o.below g.o),F (b3E.o.keep g.o),F (b3H.o.keep g.o),F (B.o.below g.o),F (f.o.below g.o)⟩
       case measure=>simp[intOf];omega
      |true =>
       go_upto_region 21 with fail
       refine wp_region_held_drew (S:=λW=>r7 wr W) Rz (by first|exact hHeld|exact bG (bg _)|exact g.o) (λhHeld=>?_);refine ek 0 ?_;refine tq 1 rfl ?_ (λwS hSw=>?_) ?_;rotate_left
       ·(try dsimp only at hSw)
        refine bK 42 (.tmp 118) ?_ g22 0 (.slice (some ⟨a8m,0,none⟩) D b22) _ underlying42 rfl ?_ (HGA.o _ hSw).1
        ·rfl
        rfl
       try simp only[Act.put,fH,fI,fJ]
       refine ek 2 ?_;refine ek 3 ?_;refine ek 4 ?_;refine tq 5 rfl ?_ (λwS hSw=>?_) ?_;rotate_left
       ·(try dsimp only at hSw)
        refine gU 34 (.tmp 122) ?_ a8m (k*25+1) (cu b3C iA.url) _ underlying34 rfl MV.o ?_ (HRY.o _ hSw)
        ·rfl
        rfl
       try simp only[Act.put,fH,fI,fJ]
       refine ek 6 ?_;refine tq 7 rfl ?_ (λwS hSw=>?_) ?_;rotate_left
       ·(try dsimp only at hSw)
        refine bK 42 (.tmp 124) ?_ g21 0 (.slice (some ⟨N,0,none⟩) NX b2U) _ underlying42 rfl ?_ (HGA.o _ hSw).2.1
        ·rfl
        rfl
       try simp only[Act.put,fH,fI,fJ]
       refine ek 8 ?_;refine ek 9 ?_;refine ek 10 ?_;refine tq 11 rfl ?_ (λwS hSw=>?_) ?_;rotate_left
       ·(try dsimp only at hSw)
        refine gU 34 (.tmp 128) ?_ N (n*25+1) (cu b3B iB.url) _ underlying34 rfl ug.o ?_ (rF.o _ hSw)
        ·rfl
        rfl
       try simp only[Act.put,fH,fI,fJ]
       refine rn 12 Rz rfl r5 (λK hK=>?_)
       go_simp
       refine(HS1.o _ hHeld).m ?_;rintro e w6x ⟨rfl,U⟩;have g:=F<|hHeld.trans (U.m hHeld.size);clear U;refine hK.out _ _ ?_ (λhHeld=>?_)
       ·first|exact hHeld|exact bG (bg _)|exact g.o
       clear hK K
       try simp only[Act.put,fH,fI,fJ]
       refine ek 13 ?_;refine ek 14 ?_;refine tq 15 rfl ?_ (λwS hSw=>?_) ?_;rotate_left
       ·(try dsimp only at hSw)
        refine bK 42 (.tmp 132) ?_ g22 0 (.slice (some ⟨a8m,0,none⟩) D b22) _ underlying42 rfl ?_ (HGA.o _ hSw).1
        ·rfl
        rfl
       try simp only[Act.put,fH,fI,fJ]
       refine ek 16 ?_;refine ek 17 ?_;refine ek 18 ?_;refine tq 19 rfl ?_ (λwS hSw=>?_) ?_;rotate_left
       ·(try dsimp only at hSw)
        refine bK 22 (.tmp 136) ?_ a8m (k*25+24) b4j _ underlying22 rfl ?_ (HGA.o _ hSw).2.2.1
        ·rfl
        rfl
       try simp only[Act.put,fH,fI,fJ]
       refine ek 20 ?_;refine tq 21 rfl ?_ (λwS hSw=>?_) ?_;rotate_left
       ·(try dsimp only at hSw)
        refine bK 42 (.tmp 138) ?_ g21 0 (.slice (some ⟨N,0,none⟩) NX b2U) _ underlying42 rfl ?_ (HGA.o _ hSw).2.1
        ·rfl
        rfl
       try simp only[Act.put,fH,fI,fJ]
       refine ek 22 ?_;refine ek 23 ?_;refine ek 24 ?_;refine tq 25 rfl ?_ (λwS hSw=>?_) ?_;rotate_left
       ·(try dsimp only at hSw)
        refine bK 22 (.tmp 142) ?_ N (n*25+24) wx _ underlying22 rfl ?_ (HGA.o _ hSw).2.2.2
        ·rfl
        rfl
       try simp only[Act.put,fH,fI,fJ]
       refine rn 26 Rz rfl r5 (λK hK=>?_)
       go_simp
       refine(HS2.o _ hHeld).m ?_;rintro e w7x ⟨rfl,U⟩;have g:=F<|hHeld.trans (U.m hHeld.size);clear U;refine hK.out _ _ ?_ (λhHeld=>?_)
       ·first|exact hHeld|exact bG (bg _)|exact g.o
       clear hK K
       try simp only[Act.put,fH,fI,fJ]
       refine ek 27 ?_;refine wpAnyH_done Rz ?_ _;cases q2 with
       |false =>
        have W7:=F (show a7h a6b (Y'.drop (k+1)) (X'.drop n)+n=NX by have h:=HM.o;rw[HMC.o]at h;exact h);go_wp2_with fail;go_roundw
        case rel=>exact⟨n,k+1,M0,M0,rfl,by go_num,W7,F (J.o.below g.o),F (b1r.o.below g.o),F (b3E.o.keep g.o),F (b3H.o.keep g.o),F (B.o.below g.o),F (f.o.below g.o)⟩
        case measure=>simp[intOf];omega
       |true =>
        have W7:=F (show a7h a6b (Y'.drop (k+1)) (X'.drop (n+1))+(n+1)=NX by have h:=HM.o;rw[HMC.o]at h;have I:(a7h a6b (Y'.drop (k+1)) (X'.drop (n+1))+1)+n=NX:=h;omega);go_wp2_with fail;go_roundw
        case rel=>exact⟨n+1,k+1,M0,M0,by go_num,by go_num,W7,F (J.o.below g.o),F (b1r.o.below g.o),F (b3E.o.keep g.o),F (b3H.o.keep g.o),F (B.o.below g.o),F (f.o.below g.o)⟩
        case measure=>simp[intOf];omega
     have hnX:n=NX:=by
      by_cases h:n<NX
      ·have hk':k=Y'.length:=by have:=HNY.o;omega
       have I:=HM.o;rw[hk',dF]at I;have:a7h a6b [] (X'.drop n)=0:=rfl;omega
      omega
     subst hnX;obtain⟨k1,hk1⟩:=V (b3I.kind);obtain⟨y1,hy1⟩:=V (b3I.why);obtain⟨o1,ho1⟩:=V (E b3I.o);obtain⟨k2,hk2⟩:=V (b2Q.kind);obtain⟨y2,hy2⟩:=V (b2Q.why);obtain⟨o2,ho2⟩:=V (E b2Q.o);have e1:vF b3I=bH k1 y1 o1:=by rw[hk1,hy1,ho1]
     have e2:vF b2Q=bH k2 y2 o2:=by rw[hk2,hy2,ho2]
     rw[e1]at TM;rw[e2]at TO;rw[<-hk1,<-hy2]at HMV;clear e1 e2 hk1 hy1 ho1 hk2 hy2 ho2 hkn HM HM0 B f b3H HUX HUY;rcases cI k D with t|t
     all_goals
      have t':(k:Int)<(D:Int)\/¬ (k:Int)<(D:Int):=M0
      first|(have t2:¬ (k:Int)<(D:Int):=M0)|(have t2:(k:Int)<(D:Int):=M0)
      clear t'
      go_upto_region 24 with(first
       |((with_reducible apply bS);refine fj r5 (.tmp 5) rfl w.heap.size sv hv tv p.most rfl J.o.c ?_)
       |((with_reducible apply bS);refine cR r5 (.tmp 14) rfl g11 A u H8.o rfl J.o.y ?_)
       |(go_at_call 12;refine(TM.o _ J.o).m ?_;rintro e wg ⟨rfl,U⟩;have KPg:=F<|J.o.below U;have KAg:=F<|b1r.o.below U;have CXg:=F<|b3E.o.keep U;clear U)
       |((with_reducible apply bS);refine aM rfl 40 rfl _ _ (tV _) ?_;refine newV rfl (.tmp 25) (.tmp 153) rfl k1 y1 o1 rfl rfl rfl ?_;intro wh I U;have b9M:=F I;have KPh:=F<|KPg.o.below U;have KAh:=F<|KAg.o.below U;have CXh:=F<|CXg.o.keep U;clear U I))
      go_upto_region 25 with(first
       |((with_reducible apply bS);refine fj r5 (.tmp 16) rfl g16 v1 v2 v3 p.most rfl (by rw[HG.o];exact KAh.o.c) ?_)
       |((with_reducible apply bS);refine cR r5 (.tmp 14) rfl g11 A u H8.o rfl KPh.o.y ?_)
       |(go_at_call 12;refine(TO.o _ _ _ _ KAh.o).m ?_;rintro e wi ⟨rfl,U⟩;have b8K:=F<|dw KPh.o.b U;have b9N:=F<|b9M.o.keep U;have CXi:=F<|CXh.o.keep U;clear U)
       |((with_reducible apply bS);refine aM rfl 40 rfl _ _ (tV _) ?_;refine newV rfl (.tmp 26) (.tmp 159) rfl k2 y2 o2 rfl rfl rfl ?_;intro c5g I U;have b6W:=F<|b9N.o.keep U;have b6X:=F I;have b6r:=F<|dw b8K.o U;have CXj:=F<|CXi.o.keep U;clear U I))
      by_cases hv3:k1=3
      ·subst hv3
       obtain⟨z3,z4⟩:=HMV.o rfl;have z3':(y2==3)=false:=by simpa using z3
       have z4':(y2==4)=false:=by simpa using z4
       have n3:(y2 != 3)=true:=by simp[z3]
       have n4:(y2 != 4)=true:=by simp[z4]
       go_wp2_with (first
        |((with_reducible apply bS);refine gwi r5 (.tmp 163) rfl g21 0 44 _ CXj.o _ rfl rfl ?_)
        |((with_reducible apply bS);refine tY r5 (.tmp 169) rfl _ 0 40 _ b6W.o _ vc0 rfl ?_)
        |((with_reducible apply bS);refine tY r5 (.tmp 173) rfl _ 1 40 _ b6X.o _ vc1 rfl ?_)
        |((with_reducible apply bS);refine tY r5 (.tmp 177) rfl _ 1 40 _ b6X.o _ vc1 rfl ?_))
       go_ret;exact⟨rfl,b6r.o⟩
      have c32:(k1==3)=false:=by simpa using hv3
      go_wp2_with (first
       |((with_reducible apply bS);refine gwi r5 (.tmp 163) rfl g21 0 44 _ CXj.o _ rfl rfl ?_)
       |((with_reducible apply bS);refine tY r5 (.tmp 169) rfl _ 0 40 _ b6W.o _ vc0 rfl ?_))
      go_ret;exact⟨rfl,b6r.o⟩
