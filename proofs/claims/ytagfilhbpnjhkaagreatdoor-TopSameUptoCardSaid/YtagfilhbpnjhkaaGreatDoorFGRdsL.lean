import Derived.Lib.SlBytesConst
import Derived.Test.YtagfilhbpnjhkaaGreatDoorFGRdsK
set_option maxRecDepth 10000
set_option maxHeartbeats 0
namespace Go.Proofs.Q
open Tryz Go.RowKit
variable{W' W0:H}{b1:Nat}
theorem a0l{A wv:Z}{i:eu}(h:i.url.host.six.length=8):(bN A wv i)[24]?= some wv:=by
 unfold bN;rw[dx,dB (by rw[oF h];omega),oF h];rfl
theorem a0k{A wv:Z}{i:eu}{j:Nat}{x:Z}(h:(cu A i.url)[j]?= some x):(bN A wv i)[1+j]?= some x:=by
 have a:=(bh.1 h).1;rw[Nat.add_comm];unfold bN;rw[dx,cX a];exact h
theorem k7(C:Array Z)(n:Nat)(w:H):(convert 25 25 (.slice (some ⟨w.heap.size,0,none⟩) n n)).run prog (w.alloc (.cells C 5))=.ok (.slice (some ⟨w.heap.size,0,none⟩) n n) (w.alloc (.cells C 5 (C.size,C.size+1))) :=
 Lib.run_convert_bytes_const w _ _ C n n underlying25 underlying5
theorem lh(l:O)(w:H)(d:l.length<=maxLen)(fr:Nat×Nat):Sl (w.alloc (.cells (Lib.byteCells l).toArray 5 fr)).heap.size (w.alloc (.cells (Lib.byteCells l).toArray 5 fr)) (.slice (some ⟨w.heap.size,0,none⟩) l.length l.length) (Lib.byteCells l):=by
 refine⟨l.length,by rw[hb];exact ag _,d,.inr ⟨w.heap.size,0,Oc,by rw[hb],λj c=>?_⟩⟩;have a:(w.alloc (.cells (Lib.byteCells l).toArray 5 fr)).heap[w.heap.size]?= some (.cells (Lib.byteCells l).toArray 5 fr):=jp w _;unfold World.cell?;simp only[a,bM];rw[cf,aG c];rfl
section
variable {ops:Array Oper} {rest:List Oper} {o o2:Oper} {a:Act} {w:H} {Q:Exit->Act->H->Prop}
end

section
variable {ops:Array Oper} {rest:List Oper} {o:Oper} {a:Act} {w:H} {Q:Exit->Act->H->Prop}
theorem a1Y{K:Act->H->Prop}(src dst:TypeId)(x:Operand)(e:o.op=.convert src dst x)(v:Z)(X:a.eval x=v){c:Z}{d:H}(f:(convert src dst v).run prog w=.ok c d)(h:K (a.put o.dst c) d):Oper.wp prog o a w K Q:=by
 unfold Oper.wp execOp;simp only[e,X,h2,io,h1,f];exact h
theorem Oh(d:Region.wanted o (yielded ops a.tmps)=true)(y:Operand)(f:o.op=.buildSlice 22 1 #[(0,y)])(x:O)(hy:a.eval y=S x)
  (h:∀b c,r7 w c->Sl c.heap.size c (.slice (some ⟨b,0,none⟩) 1 1) ([x].map S)->wpList prog ops Q rest (a.put o.dst (.slice (some ⟨b,0,none⟩) 1 1)) c):wpList prog ops Q (o::rest) a w:=by
 unfold wpList;rw[ge d];refine .inl ?_;unfold Oper.wp execOp;have e:(#[(0,y)]:Array (Nat×Operand)).map (λ(i,x)=>(i,a.eval x))=#[(0,S x)]:=by simp[hy]
 simp only[f,h2,io,h1,e,Xt];exact h _ _ ((gT _ _).alloc (ag _) _) (Wl w x)
theorem Ac(d:Region.wanted o (yielded ops a.tmps)=true)(x:Operand)(e:o.op=.load 34 x)(b k:Nat)(A:Z)(u:Url)(c:u.host.six.length=8)(X:a.eval x=.pointer (some ⟨b,k,none⟩))(f:w.rangeAt b k (cu A u))
  (K:wpList prog ops Q rest (a.put o.dst (.agg (ai A u))) w):wpList prog ops Q (o::rest) a w :=
 nj d (.agg (ai A u)) (gU 34 x e b k (cu A u) _ underlying34 rfl (by rw[iJ,oF c]) X f) K
end

theorem Xh:zK U0:=⟨⟨⟨P8,P8,rfl,P8⟩,P8⟩,⟨P8,P8,P8,P8,P8,P8,P8,P8⟩,P8,P8⟩
theorem a1W{o:Oper}{a:Act}{w:H}{K:Act->H->Prop}{Q:Exit->Act->H->Prop}(x:Operand)(f:o.op=.convert 9 25 x)(l:O)(X:a.eval x=S l)(e:l.length<=maxLen)
  (h:∀d c,Sl c.heap.size c d (Lib.byteCells l)->r7 w c->K (a.put o.dst d) c):Oper.wp prog o a w K Q:=by
 obtain⟨d,c,g,i,_,U⟩:=Wa l w e;exact a1Y _ _ x f (S l) X g (h d c i U)

theorem Pq:∀p∈CA,p.2.length<=2*p.1.length:=P8
theorem Kv:∀p∈rU,p.2.length<=2*p.1.length:=P8
theorem Ol:∀p∈nd,2<=p.1.length:=P8
theorem BV(s:O):(jm s).length<=s.length:=by
 unfold jm
 split
 ·rw[fY];omega
 exact ag _
theorem LP{s t:O}(h:fT s=some t):t.length<=2*s.length:=by
 have hc:=BV s;unfold fT at h
 split at h
 ·next t' e =>
  cases h;have:=Pq _ (lO e);dsimp only at this;omega
 split at h
 ·unfold iX at h
  split at h
  ·next U =>
   have e:=bj h;subst e;have h4:=nX ((nN (jm s):Nat):Int);unfold nN at U;cases c:look nd (jm s)with
   |none=>rw[c]at U;exact absurd rfl U
   |some v =>
    have:=Ol _ (lO c);dsimp only at this;omega
  have:=Kv _ (lO h);dsimp only at this;omega
 cases h
theorem yV(s:O):∀n,(iC s n).1.length<=2*(iC s n).2
 |0=>by show([38]:O).length<=2*1;decide
 |n+1=>by
  have c:=yV s n;unfold iC
  split
  ·exact c
  next t e =>
  split
  ·exact(by decide:([38]:O).length<=2*1)
  have h:=LP e;have I:((s.drop 1).take (n+1)).length<=n+1:=by rw[aD];omega
  show t.length<=2*(n+2);omega
theorem VK(s:O)(b:Int)(f:Nat)(hf:2<=f):(Er s b f).1.length<=2*(Er s b f).2:=by
 unfold Er
 split
 ·exact(by decide:([38]:O).length<=2*1)
 show(iH _).length<=2*(f+_+_)
 have:(iH (mB b 0 (s.drop f)).1).length<=4:=by
  unfold iH
  split
  ·exact nX _
  exact nX _
 omega
theorem RK(s:O):(gX s).1.length<=2*(gX s).2:=by
 unfold gX
 split
 ·unfold vY
  split <;>exact VK _ _ _ P8
 exact yV _ _
theorem zZ:∀(n:Nat) (s:O),s.length<=n->(pl s).length<=2*s.length
 |0,s,h=>by
  obtain rfl:s=[]:=dy.mp M0;exact ag _
 |n+1,[],_=>ag _
 |n+1,x::r,h=>by
  rw[cz]at h;by_cases X:x=38
  ·subst X
   have Y:=wA (s:=38::r) Oc;have I:=RK (38::r);have c:=zZ n ((38::r).drop (gX (38::r)).2) (by rw[aj,cz];omega);rw[aj,cz]at c;rw[IG,ae,cz];rw[cz]at Y;omega
  have c:=zZ n r M0;rw[Cl r X,cz,cz];omega
theorem WC{l:O}(h:l.length<=300):(jw l).length<=5400:=by
 have Y:=xk l;have I:=nT _ (dY l) (ag _);have h3:=zZ _ (kz (dY l)) (ag _);unfold jw;omega
def sM:List dk->Nat
 | []=>0
 |c::l=>(c.url.length+1)+sM l
theorem OS{p:UInt8->Bool}:∀{l:O},l.dropWhile p=[]->∀x∈l,p x=true
 | [],_,x,h=>by cases h
 |y::r,e,x,h=>by
  by_cases hy:p y=true
  ·rw[aQ hy]at e
   rcases aK.mp h with rfl|h
   ·exact hy
   exact OS e x h
  rw[aX hy]at e;cases e
theorem Sq{x:UInt8}{r:O}(h:x≠44):gM (x::r) ≠ []:=by
 intro e;unfold gM at e;have c:=List.reverse_eq_nil_iff.mp e;have:=OS c x Oc;exact h (by simpa using this)
theorem Sp{u:O}(h:nQ u=true):(gM u).length+1<=u.length:=by
 unfold nQ at h;have h:=of_decide_eq_true h
 obtain⟨q,rfl⟩:∃q,u=q++[44]:=by
  cases hu:u with
  |nil=>rw[hu]at h;cases h
  |cons a l =>
   have c:u ≠ []:=by rw[hu];simp
   have e:=ip c;rw[TV c]at h;rw[<-hu];exact⟨u.dropLast,by rw[<-Option.some.inj h];exact e.symm⟩
 unfold gM;rw[fc,jK];show((44::q.reverse).dropWhile _).length+1<=_;rw[aQ P8];have:=(ce (l:=q.reverse) λx=>decide (x=44)).length_le;rw[fc]at this;rw[ae,dq];omega
theorem Wr(t:O):(jt t).url.length+1+(jt t).rest.length<=t.length\/((jt t).rest=[]/\(jt t).url.length<=t.length):=by
 have hl:(t.takeWhile fU).length+(t.dropWhile fU).length=t.length:=by rw[<-List.length_append,ez]
 unfold jt
 split
 ·next h =>
  have:=Sp h
  left
  show(gM _).length+1+(t.dropWhile fU).length<=_;omega
 have hw:(j7 (t.dropWhile fU)).2.length<=(t.dropWhile fU).length:=Hh _ _;cases hd:(j7 (t.dropWhile fU)).2 with
 |nil =>
  right
  exact⟨rfl,by show(t.takeWhile fU).length<=_;omega⟩
 |cons y r =>
  rw[hd,cz]at hw
  left
  show(t.takeWhile fU).length+1+r.length<=_;omega
theorem Mu:∀k,gL k []=[]
 |0=>rfl
 |k+1=>by rw[gL];rfl
theorem NF(q:Stp)(l:List dk):sM (tU q l)<=(q.url.length+1)+sM l:=by
 unfold tU
 split
 ·omega
 exact ag _
theorem zg:∀(k:Nat) (s:O),sM (gL k s)<=s.length+1
 |0,s=>aL _
 |k+1,s=>by
  rw[gL]
  split
  ·exact aL _
  have Y:=gJ fS s;have I:=NF (jt (s.dropWhile fS)) (gL k (jt (s.dropWhile fS)).rest);rcases Wr (s.dropWhile fS)with c|⟨c,h4⟩
  ·have ih:=zg k (jt (s.dropWhile fS)).rest
   omega
  rw[c,Mu]at I⊢;have:sM []=0:=rfl;omega
theorem Wn(s:O):sM (jF s)<=s.length+1:=zg _ s
theorem Wq{s:O}(h:s.dropWhile fS ≠ []):1<=(jt (s.dropWhile fS)).url.length:=by
 obtain⟨x,r,e,X⟩:=dw_head h;rw[e];have f:=Oo X
 have c:x≠44:=by
  rintro rfl;exact absurd X P8
 unfold jt;rw[bJ f]
 split
 ·exact b3A λd=>Sq c (az d)
 show 1<=(x::r.takeWhile fU).length;rw[cz];omega
theorem zf:∀(k:Nat) (s:O),∀c∈gL k s,1<=c.url.length
 |0,_,c,h=>by cases h
 |k+1,s,c,h=>by
  rw[gL]at h
  split at h
  ·cases h
  next d =>
  rcases uM h with⟨e,_⟩|h
  ·rw[e];exact Wq d
  exact zf k _ c h
theorem JJ:∀{l:List dk},(∀c∈l,1<=c.url.length)->2*l.length<=sM l
 | [],_=>ag _
 |c::l,h=>by
  have Y:=h c fA;have I:=JJ λd hd=>h d (cN _ hd);have:sM (c::l)=(c.url.length+1)+sM l:=rfl;rw[cz];omega
theorem JN{u:Url}{L M:Nat}(h:Ul L M u):u.host.name.length<=96*L+8:=by
 rcases h.host with⟨n,sp,hn,hh⟩|h
 ·have key:∀g,sS n sp g->g.name.length<=96*L+8:=by
   intro g e;cases e with
   |six a h8 ha _=>exact aL _
   |name m e _ hd hn2 U he =>
    have Y:=rf _ n (ag _);have I:=rx (signs (nJ n));have h3:=lR _ (nJ n) (ag _);have h4:=Cg hd;show m.length<=_;omega
   |four m e _ h=>exact aL _
   |empty e h=>exact aL _
   |a0z e _ h U =>
    have:=VR n;show(dD 0 n).length<=_;omega
  exact key _ (hkind hh)
 rw[h];exact aL _
theorem AQ{L M:Nat}{u:Url}(h:Ul L M u)(ok:gG u)(hM:3*L+3<=M):(dA u true).length<=112*L+M+130:=by
 have c:=JN h;have I:=oQ u.host ok.h (96*L+8) c;have h3:=sC u ok;have a1:=h.usr;have a2:=h.ib;have a3:=h.flat;have a4:=h.path;have a5:=h.q;have a6:=h.f;have a7:=h.aJ
 have hw:(uf u).length<=6*L+2:=by
  unfold uf
  split
  ·simp
  split <;>simp only[ae,cz,aO] <;>omega
 have ha:(ld u).length<=102*L+108:=by
  unfold ld Fq
  split
  ·split <;>simp
  simp only[ae,cz,aO];omega
 have hp:(nh u).length<=M:=by
  unfold nh
  split <;>omega
 have hq:(qF u).length<=3*L+1:=by
  unfold qF
  split
  ·rw[ae,dq];omega
  simp
 have hf:(Nc u true).length<=3*L+1:=by
  unfold Nc
  split
  ·rw[ae,dq];omega
  simp
 unfold dA;simp only[ae,cz,aO];omega
theorem SF{L M:Nat}{u:Url}(h:Ul L M u)(hL:L<=1000000)(hM:M<=1024000000):nc u:=by
 have h0:=JN h;exact⟨by have:=h.aJ;omega,by have:=h.usr;omega,by have:=h.ib;omega,M0,by have:=h.flat;omega,by have:=h.path;omega,by have:=h.q;omega,by have:=h.f;omega⟩
theorem b2K{b u:Url}{t s:O}(ht:t.length<=300)(U:eF t=some b)(h:kF b s=some u):Ul (300+s.length) (6*(300+s.length)+6) u:=by
 have c:=oG (L:=300+s.length) M0 M0 U;have d:=SD (L:=300+s.length) M0 M0 c h;exact d.more M0
theorem a6m{b u:Url}{t s:O}(c:t.length<=300)(U:eF t=some b)(h:kF b s=some u):(dA u true).length<=118*s.length+35536:=by
 have:=AQ (b2K c U h) (qQ (sk (kG U) h)) M0;omega
def lj:List eu->Nat
 | []=>0
 |i::l=>((eS i).length+2)+lj l
theorem Cv:∀l:List eu,(l.flatMap λy=>[44,32]++eS y).length=lj l
 | []=>rfl
 |i::l=>by
  have:=Cv l;simp only[cM,ae,cz,aO]at this⊢;have e:lj (i::l)=((eS i).length+2)+lj l:=rfl;omega
theorem QM(l:List eu):(ij l).length<=lj l:=by
 cases l with
 |nil=>exact ag _
 |cons i l =>
  show(eS i++_).length<=((eS i).length+2)+lj l;rw[ae,Cv];omega
theorem a7Q{kind:Int}{b:Url}{t:O}{W:Nat}(g:t.length<=300)(U:eF t=some b):∀{l:List dk},(∀c∈l,(du c.words).length<=W) ->
  lj (pI kind (l.map λc=>ef b c.url c.words))<=118*sM l+(35538+W)*l.length
 | [],_=>ag _
 |c::l,h=>by
  have n:=a7Q (kind:=kind) g U λd hd=>h d (cN _ hd);have hw:=h c fA;have e:sM (c::l)=(c.url.length+1)+sM l:=rfl;have j:(35538+W)*(l.length+1)=(35538+W)*l.length+(35538+W):=c0N _ _;rw[e,dh,cz,j];unfold pI at n⊢;cases f:pH kind (ef b c.url c.words)with
  |false =>
   rw[aZ (by rw[f];simp)];omega
  |true =>
   rw[aU f]
   have m:(ef b c.url c.words).right=true:=by
    unfold pH at f;rw[f8]at f;exact f.1
   obtain⟨u,hu,hi⟩:=yE m;have hs:=a6m g U hu;have i:lj (ef b c.url c.words::(l.map λc=>ef b c.url c.words).filter (pH kind))=((eS (ef b c.url c.words)).length+2)+lj ((l.map λc=>ef b c.url c.words).filter (pH kind)):=rfl
   have k:(eS (ef b c.url c.words)).length=(dA u true).length+(du c.words).length:=by
    rw[hi];unfold eS;rw[ae]
   rw[i,k];omega
theorem a9Z{kind:Int}{b:Url}{t s:O}{i:eu}{n:Nat}(d:t.length<=300)(U:eF t=some b)(hs:s.length<=n)(hi:i=ef b s []\/i=⟨true,b,[]⟩):lj (pI kind [i])<=118*n+35538:=by
 unfold pI;cases c:pH kind i with
 |false =>
  rw[aZ (by rw[c];simp)];exact aL _
 |true =>
  rw[aU c]
  have f:i.right=true:=by
   unfold pH at c;rw[f8]at c;exact c.1
  have key:∀u:Url,(dA u true).length<=118*n+35536->lj [(⟨true,u,[]⟩:eu)]<=118*n+35538:=λu hu=>by
   show((eS ⟨true,u,[]⟩).length+2)+0<=_;unfold eS;rw[ae];show(dA u true).length+0+2+0<=_;omega
  rcases hi with rfl|rfl
  ·obtain⟨u,hu,e⟩:=yE f
   have:=a6m d U hu;show lj [ef b s []]<=_;rw[e];exact key u M0
  have h0:=AQ ((oG (L:=300) d M0 U)) (qQ (kG U)) M0;exact key b M0
theorem b1Q{kind:Int}{b:Url}{t s:O}(f:t.length<=300)(U:eF t=some b)(g:s.length<=5400):lj (pI kind (mg kind b s).items)<=142000000/\(kind≠2->lj (pI kind (mg kind b s).items)<=700000):=by
 have hnil:lj (pI kind [])=0:=rfl;unfold mg
 split
 ·have:=a9Z (kind:=kind) (n:=5400) f U g (.inl rfl)
  dsimp only;exact⟨M0,λ_=>M0⟩
 split
 ·next I =>
  refine⟨?_,λh=>absurd I h⟩
  have Y:=a7Q (kind:=kind) (W:=16203) f U (l:=jF s) λc e=>by
   obtain⟨d,hd,_⟩:=wO s.length s c e;have m:=Zm hd;have hw:=Hm (n:=5400) λw hw=>am (DP s.length s c e w hw) g;have:5401*c.words.length<=5401*3:=ik _ m;omega
  have h3:=Wn s;have j:=JJ λc e=>zf s.length s c e
  have k:(jF s).length<=2700:=by
   have:2*(jF s).length<=sM (jF s):=j;omega
  have h6:(35538+16203)*(jF s).length<=(35538+16203)*2700:=ik _ k;show lj (pI kind ((jF s).map λc=>ef b c.url c.words))<=_;omega
 split
 ·split
  ·exact⟨aL _,λ_=>aL _⟩
  next r p =>
  have hl:=sD p
  have:=a9Z (kind:=kind) (s:=r.url) (n:=5400) (i:=if r.has=true then ef b r.url []else⟨true,b,[]⟩) f U M0 (by
   split
   ·exact .inl rfl
   exact .inr rfl)
  exact⟨by dsimp only;omega,λ_=>by dsimp only;omega⟩
 exact⟨aL _,λ_=>aL _⟩
theorem V0{kind:Int}{b:Url}{s:O}:(mg kind b s).delay.length<=s.length+1:=by
 have key:∀r,Dx s=some r->r.delay.length<=s.length+1:=by
  intro r h;have Y:=gJ mw s;have I:=sO pG (bT s);have h3:=gJ z48 ((bT s).takeWhile pG)
  have c:(mz ((bT s).takeWhile pG)).length<=s.length+1:=by
   unfold mz;have:(bT s).length<=s.length:=Y
   split
   ·show 1<=_;omega
   omega
  unfold Dx rfG at h
  split at h
  ·cases h
  unfold rfT at h
  split at h
  ·cases h;exact c
  split at h
  ·cases h
  split at h <;>(cases h;exact c)
 unfold mg
 split
 ·exact aL _
 split
 ·exact aL _
 split
 ·split
  ·exact aL _
  next r d=>exact key r d
 exact aL _
theorem b1R{kind:Int}{b:Url}{t s:O}(g:t.length<=300)(U:eF t=some b)(hs:s.length<=5400)(I:kind=2):∀i∈pI kind (mg kind b s).items,(dA i.url true).length<=1048576:=by
 intro i hi;obtain⟨Y,f,_⟩:=a7N hi;unfold mg at Y;rw[gc M0,ge I]at Y;obtain⟨c,d,rfl⟩:=dt.mp Y;obtain⟨u,hu,e⟩:=yE f;have:=a6m g U hu;have:=((oV s).2 c d).1;rw[e];show(dA u true).length<=_;omega
theorem b0B{l:List eu}:(Pj l).length<=lj l:=by
 cases l with
 |nil=>exact ag _
 |cons i l =>
  show(dA i.url true).length<=((eS i).length+2)+lj l;unfold eS;rw[ae];omega

def Sel(kind:Int)(p:eu->Bool):Prop:=∀i,p i=true->pH kind i=true
theorem a90{kind:Int}{p:eu->Bool}(hp:Sel kind p){l:List eu}{i:eu}(h:i∈l.filter p):i∈pI kind l :=
 a3J.mpr ⟨(a3J.mp h).1,hp i (a3J.mp h).2⟩
theorem a3S{kind:Int}{p:eu->Bool}(hp:Sel kind p){l:List eu}{i:eu}(h:i∈l.filter p):i∈l/\i.right=true/\(kind=2->Fit (dA i.url true)):=a7N (a90 hp h)
theorem JD{kind:Int}{p:eu->Bool}(hp:Sel kind p):∀l:List eu,lj (l.filter p)<=lj (pI kind l)
 | []=>ag _
 |i::l=>by
  have c:=JD hp l;unfold pI at c⊢;cases h:p i with
  |true =>
   rw[aU h,aU (hp i h)];show((eS i).length+2)+lj _<=((eS i).length+2)+lj _;omega
  |false =>
   rw[aZ (by rw[h];simp)];cases I:pH kind i with
   |true =>
    rw[aU I];show _<=((eS i).length+2)+lj _;omega
   |false =>
    rw[aZ (by rw[I];simp)];exact c
theorem a6g{kind:Int}{p:eu->Bool}(hp:Sel kind p){b:Url}{s:O}(g:Good b):∀y∈ye kind ((mg kind b s).items.filter p) (mg kind b s).delay,a1X y:=by
 have d:∀i∈(mg kind b s).items.filter p,Good i.url:=λi hi=>a7c g i (a3S hp hi).1 (a3S hp hi).2.1
 have c:∀y∈Pj ((mg kind b s).items.filter p),a1X y:=by
  cases h:(mg kind b s).items.filter p with
  |nil=>intro y hy;cases hy
  |cons i r=>exact a91 (d i (by rw[h];exact fA))
 unfold ye
 split
 ·exact c
 split
 ·next f=>exact b1S λi hi=>⟨d i hi,a68 f i (a3S hp hi).1⟩
 split
 ·next Y I e =>
  refine b3q ?_ c;unfold mg;rw[gc Y,gc I,ge e];cases j:Dx s with
  |none=>intro y hy;cases hy
  |some r=>exact(a7Z j).a
 intro y hy;cases hy
theorem a7B{kind:Int}{p:eu->Bool}(hp:Sel kind p){b:Url}{s:O}(g:Good b)(f:(mg kind b s).items.filter p ≠ []) :
  mg kind b (jw (kK kind ((mg kind b s).items.filter p) (mg kind b s).delay))=⟨(mg kind b s).items.filter p,(mg kind b s).delay⟩:=by
 have hw:kK kind ((mg kind b s).items.filter p) (mg kind b s).delay=qM (ye kind ((mg kind b s).items.filter p) (mg kind b s).delay):=by
  unfold kK;rw[gc f]
 rw[hw,a8c (a6g hp g)];by_cases Y:kind=1
 ·subst Y
  have e:mg 1 b s=⟨[ef b s []],[]⟩:=by unfold mg;rw[ge rfl]
  rw[e]at f⊢;dsimp only at f⊢;cases k:p (ef b s [])with
  |false=>exact absurd (show [ef b s []].filter p=[]from aZ (by rw[k];simp)) f
  |true =>
   have ek:[ef b s []].filter p=[ef b s []]:=aU k;have hm:ef b s [] ∈ [ef b s []].filter p:=by rw[ek];exact fA
   obtain⟨u,hu,hi⟩:=yE (a3S hp hm).2.1;rw[ek,hi];have n:ye 1 [⟨true,u,[]⟩] []=dA u true:=by unfold ye;rw[ge rfl];rfl
   rw[n];unfold mg;rw[ge rfl,a6n (sk g hu)]
 by_cases I:kind=2
 ·obtain⟨L,B⟩:=V ((mg kind b s).items.filter p)
  have hd:(mg kind b s).delay=[]:=by unfold mg;rw[gc Y,ge I]
  have hp:∀i∈L,i.right=true/\Good i.url/\∃d,LOk (dA i.url true) i.words d:=by
   intro i hi;rw[B]at hi;obtain⟨d,e⟩:=a68 I i (a3S hp hi).1;exact⟨(a3S hp hi).2.1,a7c g i (a3S hp hi).1 (a3S hp hi).2.1,d,(a3S hp hi).2.2 I,e⟩
  rw[<-B,hd];have n:ye kind L []=ij L:=by unfold ye;rw[gc Y,ge I]
  rw[n]
  have es:=a79 (λi=>(jM i.words).getD C0) L λi hi=>by
   obtain⟨_,_,d,q⟩:=hp i hi;rw[q.d];exact q
  unfold mg;rw[gc Y,ge I,es,lu]
  congr 1
  have:∀l:List eu,(∀i∈l,i∈L)->l.map ((λc:dk=>ef b c.url c.words) ∘ λi=>{(jM i.words).getD C0 with url:=dA i.url true})=l:=by
   intro l
   induction l with
   |nil=>intro _;rfl
   |cons i r J =>
    intro h;obtain⟨k,gi,d,q⟩:=hp i (h i fA);rw[dh,J λj D=>h j (cN _ D)]
    congr 1
    show ef b (dA i.url true) ((jM i.words).getD C0).words=i;rw[q.d];show ef b (dA i.url true) d.words=i;rw[(Us q.d).2,a6n gi,a9P k]
  exact this L λi hi=>hi
 by_cases z:kind=3
 ·subst z
  cases k:Dx s with
  |none =>
   have e:mg 3 b s=⟨[],[]⟩:=by unfold mg;rw[gc Y,gc I,ge rfl,k]
   rw[e]at f;exact absurd rfl f
  |some r =>
   have e:mg 3 b s=⟨[if r.has=true then ef b r.url []else⟨true,b,[]⟩],r.delay⟩:=by unfold mg;rw[gc Y,gc I,ge rfl,k]
   obtain⟨x,X⟩:=V ((if r.has=true then ef b r.url []else(⟨true,b,[]⟩:eu)))
   have t:x.words=[]:=by
    rw[X]
    split
    ·exact a9U _ _ _
    rfl
   have m:=a7c (kind:=3) (s:=s) g;rw[e,<-X]at f m⊢;dsimp only at f m⊢;cases C:p x with
   |false=>exact absurd (show [x].filter p=[]from aZ (by rw[C];simp)) f
   |true =>
    have ek:[x].filter p=[x]:=aU C;have hm:x ∈ [x].filter p:=by rw[ek];exact fA
    have v:=(a3S hp hm).2.1;have y:=m x fA v;rw[ek]
    have n:ye 3 [x] r.delay=r.delay++([59,32,117,114,108,61]++dA x.url true):=by
     unfold ye iA;rw[gc P8,gc P8,ge rfl,ge rfl,bB];rfl
    have eu:=b3r (x:=dA x.url true) (a7Z k);rw[b2N y]at eu;rw[n];unfold mg;rw[gc Y,gc I,ge rfl,eu];dsimp only;rw[ge rfl,a6n y];have:=a9P v;rw[t]at this;rw[this]
 have e:mg kind b s=⟨[],[]⟩:=by unfold mg;rw[gc Y,gc I,gc z]
 rw[e]at f;exact absurd rfl f
theorem a8r{kind:Int}{p:eu->Bool}(hp:Sel kind p){b:Url}{t s:O}(k:t.length<=300)(U:eF t=some b)(j:s.length<=5400) :
  (ye kind ((mg kind b s).items.filter p) (mg kind b s).delay).length<=142000000/\(kind≠2->(ye kind ((mg kind b s).items.filter p) (mg kind b s).delay).length<=1000000):=by
 obtain⟨e,f⟩:=b1Q (kind:=kind) k U j;have c:=JD hp (mg kind b s).items;have Y:=am c e;have I:=λh=>am c (f h);clear e f c;have i:=V0 (kind:=kind) (b:=b) (s:=s);generalize (mg kind b s).delay=d at i⊢;generalize (mg kind b s).items.filter p=L at Y I⊢;have h4:=b0B (l:=L);have h5:=QM L;unfold ye
 split
 ·next g=>exact⟨M0,λh=>by have:=I h;omega⟩
 split
 ·next g=>exact⟨M0,λh=>absurd g h⟩
 next g =>
 have:=I g
 split
 ·unfold iA
  rw[ge rfl];simp only[ae,cz,aO];exact⟨M0,λ_=>M0⟩
 exact⟨aL _,λ_=>aL _⟩
theorem a6C{kind:Int}{p:eu->Bool}(hp:Sel kind p){b:Url}{t s:O}(m:t.length<=300)(U:eF t=some b)(l:s.length<=5400)(j:(mg kind b s).items.filter p ≠ []) :
  TX kind (kK kind ((mg kind b s).items.filter p) (mg kind b s).delay)/\∃B,kK kind ((mg kind b s).items.filter p) (mg kind b s).delay=qM B/\(∀y∈B,a1X y):=by
 have g:=kG U;have f:=a6g hp (s:=s) g;obtain⟨l1,n⟩:=a8r hp m U l
 have hw:kK kind ((mg kind b s).items.filter p) (mg kind b s).delay=qM (ye kind ((mg kind b s).items.filter p) (mg kind b s).delay):=by
  unfold kK;rw[gc j]
 have r:∀c∈jF (ye kind ((mg kind b s).items.filter p) (mg kind b s).delay),c.url.length<=1048576:=by
  by_cases I:kind=2
  ·have q:ye kind ((mg kind b s).items.filter p) (mg kind b s).delay=ij ((mg kind b s).items.filter p):=by unfold ye;rw[gc M0,ge I]
   have u:=λi (hi:i∈(mg kind b s).items.filter p)=>b1R (kind:=kind) m U l I i (a90 hp hi)
   have hp:∀i∈(mg kind b s).items.filter p,LOk (dA i.url true) i.words ((jM i.words).getD C0):=by
    intro i hi;obtain⟨d,e⟩:=a68 I i (a3S hp hi).1;rw[e];exact⟨(a3S hp hi).2.2 I,e⟩
   rw[q,a79 (λi=>(jM i.words).getD C0) _ hp];intro c h;obtain⟨i,hi,rfl⟩:=dt.mp h;exact u i hi
  intro c h;exact am ((oV _).2 c h).1 (am (n I) P8)
 generalize ye kind ((mg kind b s).items.filter p) (mg kind b s).delay=B at *;rw[hw];refine⟨?_,B,rfl,f⟩;have he:=Co B
 have k:∀x∈qM B,x≠0:=a7F λx X=>by
  rintro rfl;exact absurd (f 0 X).1 P8
 have hd:kz (dY (qM B))=qM B:=by
  rw[uH k,Uq];refine a1r _ λx X=>?_;obtain⟨y,hy,X⟩:=S8.mp X;exact a9X (by have:=(f y hy).2;omega) x X
 refine⟨M0,by rw[uH k];omega,by rw[hd];omega,?_⟩;rw[a8c f];exact⟨M0,r,n⟩

structure qh where
 schemes:List O
 hosts:List O
 types:List O
 most:Int
def mD(h:gF)(a:O):Bool:=decide (a=lJ h)||decide (a=[42])||(Lib.hasPrefix a [46]&&decide (h.kind=2)&&decide (a.length<h.name.length)&&Lib.hasSuffix h.name a)
def mC(p:qh)(h:gF):Bool:=decide (h.kind=0\/h.kind=1)||p.hosts.any (mD h)
def Sw(p:qh)(u:Url):Bool:=match BY u with
 |some t=>decide (t∈p.types)
 |none=>false
def uP(p:qh)(u:Url):Bool:=decide (u.aJ∈p.schemes)&&mC p u.host&&(decide (u.aJ≠qI)||Sw p u)
def jO(p:qh)(kind:Int)(i:eu):Bool:=i.right&&uP p i.url&&(decide (kind≠2)||ti (dA i.url true))
theorem Ro(p:qh)(kind:Int):Sel kind (jO p kind):=λi h=>by
 unfold jO at h;unfold pH;rw[f8,f8]at h;rw[h.1.1,h.2];rfl
theorem a6s{p:qh}{kind:Int}{i:eu}(h:jO p kind i=true):i.right=true/\uP p i.url=true:=by
 unfold jO at h;rw[f8,f8]at h;exact h.1
structure M9 where
 kind:Int
 why:Int
 o:O
def iu(why:Int):M9:=⟨2,why,[]⟩
def P4(a b:gF):Bool:=decide (a.kind=b.kind)&&decide (a.name=b.name)&&decide (a.four=b.four)&&decide (a.six=b.six)
def D9(a b:Url):Bool:=decide (a.aJ=b.aJ/\a.usr=b.usr/\a.ib=b.ib)&&P4 a.host b.host&&decide (a.bz=b.bz/\a.port=b.port/\a.opq=b.opq/\a.flat=b.flat)&&decide (a.path=b.path)&&decide (a.bZ=b.bZ/\a.q=b.q/\a.cg=b.cg/\a.f=b.f)
theorem MK(a b:Url):D9 a b=true ↔ a=b:=by
 constructor
 ·intro h
  unfold D9 P4 at h;simp only[f8,gx]at h;obtain⟨⟨⟨⟨Y,I⟩,h3⟩,h4⟩,h5⟩:=h;obtain⟨a1,au,ap,⟨ak,an,af,a6⟩,ahp,apo,ao,afl,apa,ahq,aq,ahf,aff⟩:=a;obtain⟨E,bu,bp,⟨bk,bn,bf,b6⟩,bhp,bpo,bo,bfl,bpa,bhq,bq,bhf,bff⟩:=b;simp_all
 rintro rfl;unfold D9 P4;simp
def oy(b:Url):Bool:=match eF (dA b true)with
 |none=>false
 |some v=>D9 v b
theorem p7(b:Url):oy b=true ↔ eF (dA b true)=some b:=by
 unfold oy;cases h:eF (dA b true)with
 |none=>simp
 |some v =>
  show D9 v b=true ↔ some v=some b;rw[MK];simp
def dQ(p:qh)(b:Url)(el name raw:O):M9 :=
 if gA el name=0 then⟨1,0,[]⟩
 else if p.most<(raw.length:Int)then iu 1
 else if oy b=false then iu 2
 else if(mg (gA el name) b (jw raw)).items.any (·.right)=false then iu 3
 else if(mg (gA el name) b (jw raw)).items.filter (jO p (gA el name))=[]then iu 4
 else if p.most<((kK (gA el name) ((mg (gA el name) b (jw raw)).items.filter (jO p (gA el name))) (mg (gA el name) b (jw raw)).delay).length:Int)then iu 1
 else⟨3,0,kK (gA el name) ((mg (gA el name) b (jw raw)).items.filter (jO p (gA el name))) (mg (gA el name) b (jw raw)).delay⟩
structure a7g (p:qh) (b:Url) (el name raw:O) (v:M9):Prop where
 kn:gA el name≠0
 rg:oy b=true
 l:(raw.length:Int)<=p.most
 ne:(mg (gA el name) b (jw raw)).items.filter (jO p (gA el name)) ≠ []
 w:v=⟨3,0,kK (gA el name) ((mg (gA el name) b (jw raw)).items.filter (jO p (gA el name))) (mg (gA el name) b (jw raw)).delay⟩
 o:(v.o.length:Int)<=p.most
theorem a59{p:qh}{b:Url}{el name raw:O}(h:(dQ p b el name raw).kind=3):a7g p b el name raw (dQ p b el name raw):=by
 revert h;unfold dQ
 split
 ·intro h;exact absurd h P8
 next Y =>
 split
 ·intro h;exact absurd h P8
 next I =>
 split
 ·intro h;exact absurd h P8
 next c =>
 split
 ·intro h;exact absurd h P8
 split
 ·intro h;exact absurd h P8
 next d =>
 split
 ·intro h;exact absurd h P8
 next h6=>exact λ_=>⟨Y,by simpa using c,M0,d,rfl,by dsimp only;omega⟩
theorem a6M{p:qh}{b:Url}{el name raw:O}{v:M9}(g:Good b)(k:a7g p b el name raw v) :
  mg (gA el name) b (jw v.o)=⟨(mg (gA el name) b (jw raw)).items.filter (jO p (gA el name)),(mg (gA el name) b (jw raw)).delay⟩:=by
 rw[k.w];exact a7B (Ro p _) g k.ne
def wL:qh:=⟨[[104,116,116,112]],[[42]],[],60⟩

def b4z(h:gF)(a:O):Bool:=Lib.hasPrefix a [46]&&decide (h.kind=2)&&decide (a.length<h.name.length)&&Lib.hasSuffix h.name a
theorem b7g(h:gF)(a:O):b4z h a=(decide (h.kind=2)&&(decide (a.length<h.name.length)&&(match a with | []=>false|x::_=>decide (x=46))&&decide (h.name.drop (h.name.length-a.length)=a))):=by
 unfold b4z
 have e:Lib.hasPrefix a [46]=(match a with | []=>false|x::_=>decide (x=46)):=by
  cases a with
  |nil=>rfl
  |cons x r =>
   show(decide (46=x)&&Lib.hasPrefix r [])=decide (x=46);cases r <;>simp[Lib.hasPrefix,eq_comm]
 rw[e];by_cases d:h.kind=2
 ·by_cases c:a.length<h.name.length
  ·rw[gr d,gr c]
   have f:Lib.hasSuffix h.name a=decide (h.name.drop (h.name.length-a.length)=a):=by
    rw[<-Lib.hasSuffix_of_drop,gr (xp c),Ev,bX,gx,beq_iff_eq]
   rw[f];simp
  rw[gh c];simp
 rw[gh d];simp

theorem b7I{b u:Url}{t s:O}{T:Nat}(hT:4<=T/\T<=10000)(ht:t.length<=T)(U:eF t=some b)(h:kF b s=some u):Ul (T+s.length) (6*(T+s.length)+6) u:=by
 have c:=oG (L:=T+s.length) M0 M0 U;have d:=SD (L:=T+s.length) M0 M0 c h;exact d.more M0
theorem sr{b u:Url}{t s:O}{T:Nat}(c:4<=T/\T<=10000)(d:t.length<=T)(U:eF t=some b)(h:kF b s=some u):(dA u true).length<=118*s.length+(118*T+136):=by
 have:=AQ (b7I c d U h) (qQ (sk (kG U) h)) M0;omega
theorem Ln{b u:Url}{t s:O}{T:Nat}(d:4<=T/\T<=10000)(e:t.length<=T)(hs:s.length<=100000)(U:eF t=some b)(h:kF b s=some u):zK u:=by
 have c:=b7I d e U h;exact⟨qQ (sk (kG U) h),SF c M0 M0,Sx c M0⟩
theorem vL{b:Url}{t s:O}{T:Nat}(c:4<=T/\T<=10000)(e:t.length<=T)(d:s.length<=100000)(U:eF t=some b)(ws:List O):zK (ef b s ws).url:=by
 unfold ef;cases h:kF b s with
 |none=>exact Xh
 |some u=>exact Ln c e d U h
theorem V2{kind:Int}{b:Url}{t s:O}{T:Nat}(e:4<=T/\T<=10000)(d:t.length<=T)(f:s.length<=100000)(U:eF t=some b):∀i∈(mg kind b s).items,zK i.url:=by
 intro i hi;unfold mg at hi
 split at hi
 ·obtain rfl:i=ef b s []:=by simpa using hi
  exact vL e d f U _
 split at hi
 ·obtain⟨c,h,rfl⟩:=dt.mp hi
  exact vL e d (am ((oV s).2 c h).1 f) U _
 split at hi
 ·split at hi
  ·cases hi
  next r j =>
  dsimp only at hi
  split at hi
  ·obtain rfl:i=ef b r.url []:=by simpa using hi
   exact vL e d (am (sD j) f) U _
  obtain rfl:i=⟨true,b,[]⟩:=by simpa using hi
  have g:=oG (L:=T) d M0 U;exact⟨qQ (kG U),SF g M0 M0,Sx g M0⟩
 cases hi
theorem yG{kind:Int}{b:Url}{t:O}{W:Nat}{T:Nat}(g:4<=T/\T<=10000)(i:t.length<=T)(U:eF t=some b):∀{l:List dk},(∀c∈l,(du c.words).length<=W) ->
  lj (pI kind (l.map λc=>ef b c.url c.words))<=118*sM l+(118*T+138+W)*l.length
 | [],_=>ag _
 |c::l,h=>by
  have p:=yG (kind:=kind) g i U λd hd=>h d (cN _ hd);have hw:=h c fA;have e:sM (c::l)=(c.url.length+1)+sM l:=rfl;have k:(118*T+138+W)*(l.length+1)=(118*T+138+W)*l.length+(118*T+138+W):=c0N _ _;rw[e,dh,cz,k];unfold pI at p⊢;cases f:pH kind (ef b c.url c.words)with
  |false =>
   rw[aZ (by rw[f];simp)];omega
  |true =>
   rw[aU f]
   have n:(ef b c.url c.words).right=true:=by
    unfold pH at f;rw[f8]at f;exact f.1
   obtain⟨u,hu,hi⟩:=yE n;have hs:=sr g i U hu;have j:lj (ef b c.url c.words::(l.map λc=>ef b c.url c.words).filter (pH kind))=((eS (ef b c.url c.words)).length+2)+lj ((l.map λc=>ef b c.url c.words).filter (pH kind)):=rfl
   have m:(eS (ef b c.url c.words)).length=(dA u true).length+(du c.words).length:=by
    rw[hi];unfold eS;rw[ae]
   rw[j,m];omega
theorem Di{kind:Int}{b:Url}{t s:O}{i:eu}{n:Nat}{T:Nat}(f:4<=T/\T<=10000)(d:t.length<=T)(U:eF t=some b)(hs:s.length<=n)(hi:i=ef b s []\/i=⟨true,b,[]⟩):lj (pI kind [i])<=118*n+(118*T+138):=by
 unfold pI;cases c:pH kind i with
 |false =>
  rw[aZ (by rw[c];simp)];exact aL _
 |true =>
  rw[aU c]
  have g:i.right=true:=by
   unfold pH at c;rw[f8]at c;exact c.1
  have key:∀u:Url,(dA u true).length<=118*n+(118*T+136)->lj [(⟨true,u,[]⟩:eu)]<=118*n+(118*T+138):=λu hu=>by
   show((eS ⟨true,u,[]⟩).length+2)+0<=_;unfold eS;rw[ae];show(dA u true).length+0+2+0<=_;omega
  rcases hi with rfl|rfl
  ·obtain⟨u,hu,e⟩:=yE g
   have:=sr f d U hu;show lj [ef b s []]<=_;rw[e];exact key u M0
  have h0:=AQ ((oG (L:=T) d M0 U)) (qQ (kG U)) M0;exact key b M0
theorem LA{kind:Int}{b:Url}{t s:O}{T:Nat}(f:4<=T/\T<=10000)(g:t.length<=T)(U:eF t=some b)(j:s.length<=5400):lj (pI kind (mg kind b s).items)<=4000000000/\(kind≠2->lj (pI kind (mg kind b s).items)<=2000000):=by
 have hnil:lj (pI kind [])=0:=rfl;unfold mg
 split
 ·have:=Di (kind:=kind) (n:=5400) f g U j (.inl rfl)
  dsimp only;exact⟨M0,λ_=>M0⟩
 split
 ·next I =>
  refine⟨?_,λh=>absurd I h⟩
  have Y:=yG (kind:=kind) (W:=16203) f g U (l:=jF s) λc e=>by
   obtain⟨d,hd,_⟩:=wO s.length s c e;have p:=Zm hd;have hw:=Hm (n:=5400) λw hw=>am (DP s.length s c e w hw) j;have:5401*c.words.length<=5401*3:=ik _ p;omega
  have h3:=Wn s;have k:=JJ λc e=>zf s.length s c e
  have m:(jF s).length<=2700:=by
   have:2*(jF s).length<=sM (jF s):=k;omega
  have h6:(118*T+138+16203)*(jF s).length<=(118*T+138+16203)*2700:=ik _ m;show lj (pI kind ((jF s).map λc=>ef b c.url c.words))<=_;omega
 split
 ·split
  ·exact⟨aL _,λ_=>aL _⟩
  next r q =>
  have hl:=sD q
  have:=Di (kind:=kind) (s:=r.url) (n:=5400) (i:=if r.has=true then ef b r.url []else⟨true,b,[]⟩) f g U M0 (by
   split
   ·exact .inl rfl
   exact .inr rfl)
  exact⟨by dsimp only;omega,λ_=>by dsimp only;omega⟩
 exact⟨aL _,λ_=>aL _⟩

theorem a0P(u:Url):(dA u false).length<=(dA u true).length:=by
 have:(Nc u false).length=0:=by unfold Nc;simp
 unfold dA;simp only[ae];omega
theorem V1{kind:Int}{b:Url}{t s:O}{T:Nat}(f:4<=T/\T<=10000)(e:t.length<=T)(d:s.length<=100000)(U:eF t=some b):∀i∈(mg kind b s).items,(dA i.url true).length<=1000000000:=by
 have key:∀(z:O) (ws:List O),z.length<=100000->(dA (ef b z ws).url true).length<=1000000000:=λz ws hz=>by
  unfold ef;cases h:kF b z with
  |none=>show(dA U0 true).length<=1000000000;decide
  |some u=>exact am (sr f e U h) M0
 intro i hi;unfold mg at hi
 split at hi
 ·obtain rfl:i=ef b s []:=by simpa using hi
  exact key _ _ d
 split at hi
 ·obtain⟨c,g,rfl⟩:=dt.mp hi
  exact key _ _ (am ((oV s).2 c g).1 d)
 split at hi
 ·split at hi
  ·cases hi
  next r j =>
  split at hi
  ·obtain rfl:i=ef b r.url []:=by simpa using hi
   exact key _ _ (am (sD j) d)
  obtain rfl:i=⟨true,b,[]⟩:=by simpa using hi
  exact am (AQ (oG (L:=T) e M0 U) (qQ (kG U)) (ag _)) M0
 cases hi
theorem a0I{kind:Int}{b:Url}{s:O}:(mg kind b s).items.length<=s.length+1:=by
 unfold mg
 split
 ·exact Nat.le_add_left _ _
 split
 ·show((jF s).map _).length<=_
  rw[ay];exact lw (oV s).1
 split
 ·split
  ·exact aL _
  split <;>exact Nat.le_add_left _ _
 exact aL _
theorem a0J{kind:Int}{b:Url}{s:O}:∀i∈(mg kind b s).items,i.words.length<=s.length:=by
 have key:∀(z:O) (ws:List O),(ef b z ws).words.length<=ws.length:=λz ws=>by
  unfold ef;cases kF b z with
  |none=>exact ag _
  |some u=>exact ag _
 intro i hi;unfold mg at hi
 split at hi
 ·obtain rfl:i=ef b s []:=by simpa using hi
  exact am (key _ _) (aL _)
 split at hi
 ·obtain⟨c,d,rfl⟩:=dt.mp hi
  exact am (key _ _) ((oV s).2 c d).2
 split at hi
 ·split at hi
  ·cases hi
  next r hr =>
  split at hi
  ·obtain rfl:i=ef b r.url []:=by simpa using hi
   exact am (key _ _) (aL _)
  obtain rfl:i=⟨true,b,[]⟩:=by simpa using hi
  exact aL _
 cases hi
structure Tj (p:qh) (kind:Int) (b:Url) (l:O):Prop where
 v:TX kind l
 u:∀i∈(mg kind b (jw l)).items,zK i.url/\(dA i.url false).length<=1000000000/\i.words.length<=1024000000
 n:(mg kind b (jw l)).items.length<=900000000
 m:(ij ((mg kind b (jw l)).items.filter (jO p kind))).length<=150000000000
 d:(mg kind b (jw l)).delay.length<=100000
theorem b7A(p:qh){kind:Int}{b:Url}{t l:O}{T:Nat}(c:4<=T/\T<=10000)(e:t.length<=T)(U:eF t=some b)(g:TX kind l)(f:(jw l).length<=5400):Tj p kind b l where
 v:=g
 u:=λi hi=>⟨V2 c e M0 U i hi,am (a0P _) (V1 c e M0 U i hi),am (a0J i hi) M0⟩
 n:=am a0I M0
 m:=by
  have Y:=(LA (kind:=kind) c e U f).1;have I:=JD (Ro p kind) (mg kind b (jw l)).items;have h3:=QM ((mg kind b (jw l)).items.filter (jO p kind));omega
 d:=am V0 M0
theorem vw(p:qh){kind:Int}{b:Url}{t l:O}{T:Nat}(c:4<=T/\T<=10000)(e:t.length<=T)(U:eF t=some b)(d:l.length<=300):Tj p kind b l :=
 b7A p c e U (b8o kind M0) (WC d)
theorem b0D{p:qh}{b:Url}{el name raw t:O}{v:M9}(g:t.length<=300)(U:eF t=some b)(e:raw.length<=300)(k:a7g p b el name raw v):Tj p (gA el name) b v.o:=by
 have f:=vw p (kind:=gA el name) (T:=300) ⟨M0,M0⟩ g U e;have c:=a6M (kG U) k;have h:=(a6C (kind:=gA el name) (Ro p _) g U (WC e) k.ne).1;refine⟨by rw[k.w];exact h,?_,?_,?_,?_⟩
 ·rw[c]
  exact λi hi=>f.u i (a3J.mp hi).1
 ·rw[c]
  exact am (dO _ _) f.n
 ·rw[c]
  show(ij (((mg (gA el name) b (jw raw)).items.filter (jO p (gA el name))).filter (jO p (gA el name)))).length<=_;rw[b3z];simp only[b65];exact f.m
 rw[c];exact f.d

def qt(W0 W:H)(G b1:Nat)(v:Z)(l:List eu):Prop:=∃ps:List ((Z×Z)×eu),ps.map (·.2)=l/\W.ownsRow b1 48 25 v ps.length (ps.flatMap ipc)/\∀p∈ps,mZ W0 G p
theorem qt.below{W:H}{G:Nat}{v:Z}{l:List eu}(c:qt W0 W G b1 v l)(h:r7 W W'):qt W0 W' G b1 v l:=by
 obtain⟨e,Y,I,d⟩:=c;exact⟨e,Y,own_below I h,d⟩
section
variable {ops:Array Oper} {rest:List Oper} {o:Oper} {a:Act} {w:H} {Q:Exit->Act->H->Prop}
theorem JH{W:H}(f:o.guard=none)(x y:Operand)(h:o.op=.store 45 x y)(v:Z)(d:O)(Y:v.oneCell'=true)(g:W=w.alloc (.cells (bD aI []) 45))(X:a.eval x=.pointer (some ⟨w.heap.size,0,none⟩))(hy:a.eval y=.agg (bD v d))
  (k:∀e,OB w w.heap.size 45 (bD v d) e->wpList prog ops Q rest (a.put o.dst undef) e):wpList prog ops Q (o::rest) a W :=
 jG f _ x y h (bD v d) (bD aI []) mS rfl (all_oneCell_toArray (RI (d:=d) Y)) g X hy λe c b=>k e (OB.of c (ag _) b)
end

theorem GL(i:eu)(A wv:Z)(w:H):bF prog 23 #[.agg (bC A wv i)] w (.bool i.right):=by
  obtain⟨h,f,e⟩:=cZ (show(bC A wv i)[0]?= some (.bool i.right)from rfl) (CB.new w 48 (bC A wv i)) ((gT w.heap.size w).alloc (ag _) (.cells (bC A wv i) 48));obtain⟨w1,d⟩:=ey (w.alloc (.cells (bC A wv i) 48));rw[<-d.o]at f e;generalize i.right=r at h⊢;go_enter func23,ntmps23
  go_upto_region 1 with fail
  rw[<-d.o]
  go_wp2_with((with_reducible apply bS);refine vA rfl 3 rfl w.heap.size 48 (bC A wv i) f.o 0 (.bool r) h.o rfl ?_)
  go_ret;exact⟨rfl,e.o⟩
theorem KZ(l:List eu)(v:Z)(w:H)(u:Items w.heap.size w v l)(R:∀i∈l,i.url.host.six.length=8)(hn:l.length<=900000000) :
    Calls prog 47 #[v,.func (Fn.func 23) #[] #[]] w λe w'=>∃z,e=.returned (.int .i64 z)/\-1<=z/\(0<=z ↔ l.any (·.right)=true)/\r7 w w':=by
  obtain⟨N,C⟩:=V (l.length);have L:=F C;have hNb:N<=900000000:=M0;obtain⟨av,cc,rfl⟩:=lM u;rw[<-C]at u⊢;have HI:=F u;have T:=F R;clear C u hn R;go_enter func47,ntmps47;go_wp2_with fail
  go_loopw [5,8] (λ_ iv wr=>∃k:Nat,k<=N/\iv=.int .i64 k/\Hid (r7 w wr)/\Hid (∀j (c:j<l.length),j<k->l[j].right=false)) (λ_ i _=>N-(intOf i).toNat)
  exact⟨0,aL _,rfl,F (gT _ _),F (λj c h=>M0)⟩
  obtain⟨k,hk,rfl,s,M⟩:=hrel;by_cases hkN:k<N
  · have f:k<l.length:=by have:=L.o;omega
    obtain⟨it,hit⟩:=V (l[k]);have hm:it∈l:=by rw[hit];exact be f
    obtain⟨b,o,rfl,n,A,wv,J,y1,y2,y3⟩:=oh HI.o k f;rw[<-hit]at J;have q:b<w.heap.size:=n;have K:=fo (wr.rangeAt b (o+k*25) (bN A wv it)) (λj x c=>(s.o.cell (p:=⟨b,o+k*25+j,none⟩) q).trans (J j x c));have P:=F<|T.o it hm;obtain⟨r,d⟩:=V (it.right);have g:=fo (∀W,bF prog 23 #[.agg (bC A wv it)] W (.bool r)) (λW=>by rw[d];exact GL it A wv W)
    have TD:=fo (r=false->∀j (c:j<l.length),j<k+1->l[j].right=false) (λe j c hjk=>by
      by_cases t:j=k
      · subst t;rw[<-hit,<-d];exact e
      exact M.o j c M0)
    have B:=fo (r=true->l.any (·.right)=true) (λe=>m8.mpr ⟨it,hm,by rw[<-d];exact e⟩);clear y1 y2 y3 J hit hm d n q f;cases r with
    |true =>
      have HY:=F<|B.o rfl
      go_wp2_with(first|((with_reducible apply bS);refine lm r5 48 14 rfl b (o+k*25) rfl (bN A wv it) _ K.o underlying48 rfl (by rw[lL P.o];exact mG) ?_)|(go_at_call 23;refine(g.o _).k λw5 y=>?_))
      go_ret;exact⟨k,rfl,M0,⟨λ_=>HY.o,λ_=>M0⟩,dw s.o y.o⟩
    |false =>
      have D:=F<|TD.o rfl
      go_wp2_with(first|((with_reducible apply bS);refine lm r5 48 14 rfl b (o+k*25) rfl (bN A wv it) _ K.o underlying48 rfl (by rw[lL P.o];exact mG) ?_)|(go_at_call 23;refine(g.o _).k λw5 y=>?_))
      go_roundw
      exact⟨k+1,M0,by go_num,F (dw s.o y.o),D⟩
      exact aa
  obtain rfl:k=N:=M0
  have HF:=fo (¬l.any (·.right)=true) (λe=>by
    obtain⟨x,X,t⟩:=m8.mp e;obtain⟨j,c,rfl⟩:=cC X;rw[M.o j c (by rw[L.o];exact c)]at t;cases t)
  go_wp2_with fail;go_ret;exact⟨-1,rfl,M0,⟨λh=>M0,λh=>absurd h HF.o⟩,s.o⟩
theorem PH(l:List eu)(v:Z)(w:H)(g:Items w.heap.size w v l)(f:∀i∈l,i.url.host.six.length=8)(j:l.length<=900000000) :
    bF prog 22 #[v,.func (Fn.func 23) #[] #[]] w (.bool (l.any (·.right))):=by
  have d:=F<|KZ l v w g f j;generalize l.any (·.right)=r at d⊢;clear g f j;go_enter func22,ntmps22
  go_upto_region 1 with fail
  cases r with
  |true =>
    go_wp2_with(go_at_call 47;refine d.o.m ?_;rintro e p⟨z,rfl,Y,I,U⟩;have c:=F U;have n:(0:Int)<=z:=I.mpr rfl;clear U I)
    go_ret;exact⟨eA (by first|(simp;done)|(simp;omega)),c.o⟩
  |false =>
    go_wp2_with(first
      | (go_at_call 47;refine d.o.m ?_;rintro e p⟨z,rfl,Y,I,U⟩;have c:=F U;have n:¬(0:Int)<=z:=λh=>by have:=I.mp h;cases this
         clear U I))
    go_ret;exact⟨eA (by first|(simp;done)|(simp;omega)),c.o⟩
abbrev bH(k y:Int)(o:ByteArray):Array Z:=#[.int .i64 k,.int .i64 y,.string o]
abbrev vF(x:M9):Array Z:=bH x.kind x.why (E x.o)
abbrev e0:ByteArray:=⟨#[]⟩
theorem xi:(prog.info? 41).map (·.size)=some 3:=Rz
theorem tV(w:H):(Instr.alloc 41 true (Value.tuple #[])).run prog w=.ok (.pointer (some ⟨w.heap.size,0,none⟩)) (w.alloc (.cells (bH 0 0 e0) 41)):=Rz
theorem Od:∀w,(Instr.build 41 #[(0,.int .i64 1)]).run prog w=.ok (.agg (bH 1 0 e0)) w:=λw=>Rz
theorem xZ(y:Int):∀w,(Instr.build 41 #[(0,.int .i64 2),(1,.int .i64 y)]).run prog w=.ok (.agg (bH 2 y e0)) w:=λw=>Rz
theorem Ip(o:ByteArray):∀w,(Instr.build 41 #[(0,.int .i64 3),(2,.string o)]).run prog w=.ok (.agg (bH 3 0 o)) w:=λw=>Rz
theorem SG(k y:Int)(o:ByteArray):∀u ∈ [Value.int .i64 k,.int .i64 y,.string o],u.oneCell'=true:=by
  intro u hu;simp only[aK,cV,or_false]at hu;rcases hu with rfl|rfl|rfl <;>rfl
section
variable {ops:Array Oper} {rest:List Oper} {o:Oper} {a:Act} {w:H} {Q:Exit->Act->H->Prop}
theorem Dn(d:o.guard=none)(x y:Operand)(f:o.op=.store 41 x y)(w0:H)(b:Nat){cs:Array Z}(c:cs.size=3)(i:OB w0 b 41 cs w)(k z:Int)(t:ByteArray)(X:a.eval x=.pointer (some ⟨b,0,none⟩))(hy:a.eval y=.agg (bH k z t))
    (K:∀e,OB w0 b 41 (bH k z t) e->Tn b w e->wpList prog ops Q rest (a.put o.dst undef) e):wpList prog ops Q (o::rest) a w :=
  rh d _ x y f w0 b 41 cs i 0 [.int .i64 k,.int .i64 z,.string t] X hy (by rw[c];exact ag 3) xi (SG k z t) (bH k z t) (by
    match cs,c with
    |⟨[c0,c1,c2]⟩,_=>rfl) K
end
theorem Ea{f:Func}{k:Nat}(g:f.results=#[.cell k 41]){tmps:Array Z}{w0 d:H}{b:Nat}{x y:Int}{t:ByteArray}{Post:Ending->H->Prop}(h:tmps.getD k undef=.pointer (some ⟨b,0,none⟩))
    (i:OB w0 b 41 (bH x y t) d) (e:Post (.returned (.agg (bH x y t))) d) :
    bodyPost prog f Post Exit.ret {tmps:=tmps,defers:=[]} d:=by
  have c:tmps[k]?.getD undef=.pointer (some ⟨b,0,none⟩):=by simpa using h
  have j:=i.load (P:=prog) 41 _ underlying41 rfl xi;refine bodyPost_ret (v:=.agg (bH x y t)) ?_ rfl e;simp[results,g,asAddr,c,j]
theorem nW(y:Int)(w:H):bF prog 20 #[.int .i64 y] w (.agg (bH 2 y e0)):=by
  have e:=OB.fresh w 41 (bH 0 0 e0);obtain⟨w1,d⟩:=ey (w.alloc (.cells (bH 0 0 e0) 41));rw[<-d.o]at e;have g:=F e;clear e;go_enter func20,ntmps20
  go_upto_region 1 with((with_reducible apply bS);refine aM rfl 41 rfl _ _ (tV _) ?_)
  rw[<-d.o]
  go_wp2_with((with_reducible apply bS);refine Dn rfl 2 4 rfl w w.heap.size rfl g.o 2 y e0 rfl rfl ?_;intro w2 i2 t2;have f:=F i2;clear i2 t2)
  exact Ea results20 rfl f.o ⟨rfl,f.o.bL⟩

structure b6q (W0:H) (B:Nat) (p:(Z×Z)×eu):Prop where
 ok:gG p.2.url
 o1:p.1.1.oneCell'=true
 o2:p.1.2.oneCell'=true
 path:Sl B W0 p.1.1 (p.2.url.path.map S)
 words:Sl B W0 p.1.2 (p.2.words.map S)
def b3D(W0 W:H)(B b1:Nat)(v:Z)(l:List eu):Prop:=∃ps:List ((Z×Z)×eu),ps.map (·.2)=l/\W.ownsRow b1 48 25 v ps.length (ps.flatMap ipc)/\∀p∈ps,b6q W0 B p
theorem b3D.nil(W0 W:H)(B b1:Nat):b3D W0 W B b1 (.slice none 0 0) []:=⟨[],rfl,iZ _ _ _ _,λp hp=>by cases hp⟩
theorem b3D.below{W:H}{B:Nat}{v:Z}{l:List eu}(c:b3D W0 W B b1 v l)(h:r7 W W'):b3D W0 W' B b1 v l:=by
 obtain⟨e,Y,I,d⟩:=c;exact⟨e,Y,own_below I h,d⟩
theorem b3D.tn{b:Nat}{W:H}{B:Nat}{v:Z}{l:List eu}(c:b3D W0 W B b1 v l)(h:Tn b W W')(U:b<b1):b3D W0 W' B b1 v l:=by
 obtain⟨e,Y,I,d⟩:=c;exact⟨e,Y,h.AO I U,d⟩
theorem b3D.len{W:H}{B:Nat}{v:Z}{l:List eu}(c:b3D W0 W B b1 v l):∃a d,v=.slice a l.length d:=by
 obtain⟨ps,rfl,I,_⟩:=c;rw[ay];rcases I.2 with⟨rfl,e⟩|⟨g,cap,cur,rfl,_⟩
 ·exact⟨none,0,by rw[e]⟩
 exact⟨_,_,rfl⟩
theorem b3D.one'{W:H}{B:Nat}{v:Z}{l:List eu}(c:b3D W0 W B b1 v l):v.oneCell'=true:=by
 obtain⟨a,cp,rfl⟩:=c.len;rfl
theorem b3D.items{W:H}{B:Nat}{v:Z}{l:List eu}(c:b3D W0 W B b1 v l)(U:Below B W0 W)(q:B<=W.heap.size):Items W.heap.size W v l:=by
 obtain⟨d,rfl,I,n⟩:=c;rcases I.2 with⟨rfl,r⟩|⟨g,cap,cur,rfl,hg,hh,m,hcm,hsz,htk⟩
 ·have:d=[]:=az r
  subst this;exact⟨0,ag _,.inl ⟨rfl,none,rfl⟩⟩
 refine⟨cap,by rw[ay];exact m,.inr ⟨g,0,(bw.1 hh).1,by rw[ay],λk t=>?_⟩⟩;have e:k<d.length:=by simpa using t
 have hp:=n d[k] (be e);refine⟨d[k].1.1,d[k].1.2,λj x i=>?_,?_,?_,?_⟩
 ·rw[cU]at i
  have f:j<25:=by
   have:=(bh.1 i).1;rw[lL hp.ok.h.l]at this;exact this
  have s:=z8 ipc 25 d (λp hp=>lL (n p hp).ok.h.l) k j e f;have:=I.cells (g:=g) rfl (k*25+j) x (s.trans i);rw[addr_add,<-Nat.add_assoc]at this;exact this
 ·rw[cU];exact hp.ok
 ·rw[cU]
  exact(hp.path.below U).more q
 rw[cU];exact(hp.words.below U).more q
section
variable {ops:Array Oper} {rest:List Oper} {o:Oper} {a:Act} {w:H} {Q:Exit->Act->H->Prop}
theorem b7D(n:o.guard=none)(s x:Operand)(L:o.op=.call {callee:=.builtin .append,args:=#[s,x],argTypes:=#[43,43]})
  (W0:H) (B b1:Nat) {v A wv:Z} {l:List eu} {c:eu} (M:a.eval s=v) (hown:b3D W0 w B b1 v l) (hw:b6q W0 B ((A,wv),c)) (X:a.eval x=.slice (some ⟨w.heap.size,0,none⟩) 1 1)
  (g:l.length+1<=1000000000) (hbase:b1<=w.heap.size)
  (h:∀f e,b3D W0 e B b1 f (l++[c])->Below b1 w e->wpList prog ops Q rest (a.put o.dst f) e) :
  wpList prog ops Q (o::rest) a (w.alloc (.cells (bC A wv c) 48)):=by
 obtain⟨i,hi,N,t,y⟩:=info_parts Lm;obtain⟨z,rfl,I,C⟩:=hown;rw[ay]at g;have d:Below w.heap.size w (w.alloc (.cells (bC A wv c) 48)):=(gT _ _).alloc (ag _) _;refine wpList_append_own_at _ n s x _ L b1 48 i _ 25 240 underlying43 hi N t y r5 P8 v z.length _ M (I.alloc _) ⟨w.heap.size,0,none⟩ 1 1 (bN A wv c) X (by rw[lL hw.ok.h.l]) ?_ (Qh hw.o1 hw.o2) (by unfold maxLen;omega) M0 (am hbase d.size) ?_
 ·intro j u J
  rw[addr_add,bM];have q:(bC A wv c)[j]?= some u:=by rw[cf];exact J
  rw[hx];exact q
 intro f e r D _ _;refine h f e ⟨z++[((A,wv),c)],Oc,?_,?_⟩ ?_
 ·rw[ae,dL]
  simpa using r
 ·intro p hp
  rcases bO.mp hp with hp|hp
  ·exact C p hp
  obtain rfl:p=((A,wv),c):=by simpa using hp
  exact hw
 exact((d.m hbase)).grown D (am hbase d.size) (λk K=>(I.lt k K).1)
end

theorem b75(w:H)(v1 v2:Z)(d:O):∃W,(w.alloc (.cells (bD v1 d) 45)).alloc (.cells (bD v2 d) 45)=W/\r7 w W/\CB W w.heap.size 45 (bD v1 d)/\CB W (w.heap.size+1) 45 (bD v2 d):=by
 have X:=CB.new w 45 (bD v1 d);have U:=(gT w.heap.size w).alloc (ag _) (.cells (bD v1 d) 45);obtain⟨f,e⟩:=V (w.alloc (.cells (bD v1 d) 45));have g:f.heap.size=w.heap.size+1:=by rw[e];simp
 rw[<-e]at X U⊢;have hy:=CB.new f 45 (bD v2 d);have c:=(gT f.heap.size f).alloc (ag _) (.cells (bD v2 d) 45);rw[g]at hy;exact⟨_,rfl,dw U c,X.keep c,hy⟩
section
variable {ops:Array Oper} {rest:List Oper} {o:Oper} {a:Act} {w:H} {Q:Exit->Act->H->Prop}
theorem b6I(c:o.guard=none)(x:Operand)(e:o.op=.load 48 x)(b k:Nat)(A wv:Z)(it:eu)(d:it.url.host.six.length=8)(f:w.rangeAt b k (bN A wv it))(X:a.eval x=.pointer (some ⟨b,k,none⟩))(K:wpList prog ops Q rest (a.put o.dst (.agg (bC A wv it))) w):wpList prog ops Q (o::rest) a w :=
 ll c (.agg (bC A wv it)) (gU 48 x e b k (bN A wv it) _ underlying48 rfl (by rw[lL d];exact mG) X f) K
end

theorem b6s(r:Rd)(v1 v2:Z)(w:H)(Y:Items w.heap.size w v1 r.items)(I:Items w.heap.size w v2 r.items)(hl:r.items.length<=1000000000) :
  bF prog 16 #[.agg (bD v1 r.delay),.agg (bD v2 r.delay)] w (.bool true):=by
 obtain⟨W,hW,U,k1,k2⟩:=b75 w v1 v2 r.delay;obtain⟨a1,c1,K⟩:=lM Y;obtain⟨a2,c2,T⟩:=lM I;obtain⟨HW,BW,K1,K2,R1,R2⟩:=ee hW U k1 k2 Y I;obtain⟨N,hN⟩:=V (r.items.length);have HN:=F hN;rw[<-hN]at K T hl;obtain⟨db,z⟩:=V (E r.delay)
 have u:=F<|λ(d:H) (c:r7 W d)=>(show d.cell? ⟨w.heap.size,0,none⟩=some (.slice a1 N c1)/\d.cell? ⟨w.heap.size,1,none⟩=some (.string db)/\d.cell? ⟨w.heap.size+1,0,none⟩=some (.slice a2 N c2)/\d.cell? ⟨w.heap.size+1,1,none⟩=some (.string db)from
  ⟨by rw[<-K];exact(k1.keep c).aE rfl,by rw[z];exact(k1.keep c).aE rfl,by rw[<-T];exact(k2.keep c).aE rfl,by rw[z];exact(k2.keep c).aE rfl⟩)
 have E1:=F K;have E2:=F T;clear hW U k1 k2 Y I hN z K T;go_enter func16,ntmps16
 go_upto_region 1 with fail
 rw[HW.o];obtain⟨f1,f2,f3,f4⟩:=u.o W (gT _ _);go_wp2_with fail;clear f1 f2 f3 f4
 go_loopw [4,5,6,7] (λ_ iv _ _ wr=>∃k:Nat,k<=N/\iv=.int .i64 k/\Hid (r7 W wr)) (λ_ i _ _ _=>N-(intOf i).toNat)
 exact⟨0,aL _,rfl,F (gT _ _)⟩
 obtain⟨k,hk,rfl,BR⟩:=hrel;obtain⟨f1,f2,f3,f4⟩:=u.o wr BR.o;by_cases hkN:k<N
 ·have C:k<r.items.length:=by have:=HN.o;omega
  have J:=F<|BW.o.trans (BR.o.m BW.o.size);have v:=R1.o.below J.o;have y:=R2.o.below J.o;rw[E1.o]at v;rw[E2.o]at y;obtain⟨g1,o1,ea,l1,pa,wa,ca,ya,n,Qb⟩:=oh v k C;obtain⟨g2,o2,eb,l2,L,wb,cb,yb,q,s⟩:=oh y k C;clear v y;obtain⟨it,hit⟩:=V (r.items[k]);rw[<-hit]at ca cb ya n Qb q s;have f:=F ya.h.l;have RA:=fo (wr.rangeAt g1 (o1+k*25) (bN pa wa it)) (λj x B=>ca j x B);have hcl:∀{d:H} {g j:Nat} {x:Z},r7 wr d->wr.cell? ⟨g,j,none⟩=some x->d.cell? ⟨g,j,none⟩=some x:=λU hc=>(U.cell (p:=⟨_,_,none⟩) (j2 _ _ hc)).trans hc;obtain⟨RB,PA,PB,WA,WB,OA,R⟩:=ep (λ(d:H) (c:r7 wr d)=>(show d.rangeAt g2 (o2+k*25) (bN L wb it)from λj x B=>hcl c (cb j x B))) (n.more J.o.size) (q.more J.o.size) (Qb.more J.o.size) (s.more J.o.size) (And.intro (rq n) (rq Qb)) (And.intro (rq q) (rq s));subst ea;subst eb;clear ca cb ya yb n Qb q s l1 l2 hit C hcl
  go_upto_region 7 with((with_reducible apply bS);refine b6I rfl 32 rfl g1 (o1+k*25) pa wa it f.o RA.o (by simp[Act.eval]) ?_;refine aM rfl 48 rfl _ _ (Ia _) ?_;refine a4Z rfl 6 33 rfl pa wa it f.o OA.o.1 OA.o.2 rfl rfl rfl ?_;intro w4 i4;have I4:=F i4;clear i4)
  have M:=F I4.o.bL;have F4:=F<|BR.o.trans (M.o.m BR.o.size);generalize wr.heap.size=q6 at I4⊢;clear f1 f2 f3 f4 RA;obtain⟨f1,f2,f3,f4⟩:=u.o w4 F4.o
  go_upto_region 8 with((with_reducible apply bS);refine b6I rfl 37 rfl g2 (o2+k*25) L wb it f.o (RB.o _ M.o) (by simp[Act.eval,Act.put]) ?_;refine aM rfl 48 rfl _ _ (Ia _) ?_;refine a4Z rfl 7 38 rfl L wb it f.o R.o.1 R.o.2 rfl rfl rfl ?_;intro w5 i5;have P:=F i5;clear i5)
  have C6:=F<|I4.o.cb.keep P.o.bL;have t:=F<|M.o.trans (P.o.bL.m M.o.size);have F5:=F<|BR.o.trans (t.o.m BR.o.size);obtain⟨q7,hq7⟩:=V (w4.heap.size);rw[<-hq7]at P⊢;have C7:=F P.o.cb;obtain⟨rt,D⟩:=V (it.right);have e0:w5.cell? ⟨q6,0,none⟩=some (.bool rt):=by rw[D];exact C6.o.aE rfl
  have K:w5.cell? ⟨q7,0,none⟩=some (.bool rt):=by rw[D];exact C7.o.aE rfl
  obtain⟨RU6,RU7,MX,HPB⟩:=dT (show w5.rangeAt q6 1 (cu pa it.url)from C6.o.range (λj x B=>by rw[cf];exact a0k B)) (show w5.rangeAt q7 1 (cu L it.url)from C7.o.range (λj x B=>by rw[cf];exact a0k B)) ((PA.o.below t.o).more t.o.size) ((PB.o.below t.o).more t.o.size);clear f1 f2 f3 f4 RB I4 P hq7 D PA PB M F4
  go_wp2_with(first|((with_reducible apply bS);first|refine Ac r5 45 rfl q6 1 pa it.url f.o rfl RU6.o ?_|refine Ac r5 47 rfl q7 1 L it.url f.o rfl RU7.o ?_)|(go_at_call 41;refine(b58 it.url pa L _ f.o MX.o HPB.o).k λw6 U=>?_;have D6:=F<|t.o.trans (U.o.m t.o.size);have T:w6.cell? ⟨q6,24,none⟩=some wa:=(C6.o.keep U.o).aE (by rw[cf];exact a0l f.o);have e3:w6.cell? ⟨q7,24,none⟩=some wb:=(C7.o.keep U.o).aE (by rw[cf];exact a0l f.o);clear U e0 K)|(go_at_call 42;refine(b3s it.words it.words wa wb _ _ _ (WA.o.below D6.o) (WB.o.below D6.o)).k λw7 U=>?_;rw[show decide (it.words=it.words)=true from gr rfl];have D7:=F<|D6.o.trans (U.o.m D6.o.size);clear U))
  go_roundw
  exact⟨k+1,M0,by go_num,F (BR.o.trans (D7.o.m BR.o.size))⟩
  exact aa
 obtain rfl:k=N:=M0;go_wp2_with fail;go_ret;exact⟨rfl,BW.o.trans (BR.o.m BW.o.size)⟩
