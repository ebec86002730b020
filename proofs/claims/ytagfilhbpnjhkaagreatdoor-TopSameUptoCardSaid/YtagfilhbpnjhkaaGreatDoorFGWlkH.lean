import Derived.WalkSmall
import Derived.Test.YtagfilhbpnjhkaaGreatDoorFGAthH
set_option maxRecDepth 10000
set_option maxHeartbeats 0
namespace Go.Proofs.Q
open Tryz Go.RowKit
theorem oX{l:List O}{j:Nat}(a:j<l.length):(l.map E).getD j ByteArray.empty=E l[j]:=by simp[List.getD,a]
theorem fQ(l:List O)(v:Z)(w:H)(h:Sl w.heap.size w v (l.map S))(hl:l.length<=1024000000):Calls prog 54 #[v] w (ga w 9 (Strs l)):=by
 obtain⟨c,Y,I,h⟩:=h;rcases h with⟨n,a,rfl⟩|⟨b,o,U,rfl,k⟩
 ·obtain rfl:l=[]:=by simpa using n
  cases a with
  |none =>
   refine(Any.slices_Clone_string_nil laysClone 0 c w).e ?_;exact⟨_,rfl,iZ _ _ _ _,gT _ _⟩
  |some a =>
   refine(Any.slices_Clone_string_zero laysClone a c w).m ?_;rintro e g⟨p,rfl,Y,_,d⟩;exact⟨_,rfl,Y,d⟩
 refine(Any.slices_Clone_string laysClone b o (l.map S).length c (l.map E) w Oc (by simp;omega) (λj f=>by
  rw[ay]at f;rw[k j (by simpa using f),oX f,cU])).m ?_
 rintro e g⟨p,rfl,Y,_,d⟩;refine⟨_,rfl,?_,d⟩
 have i:((l.map E).take (l.map S).length).map Value.string=Strs l:=by
  rw[aP Oc,lu];rfl
 rw[i,ay]at Y;rw[ay];exact Y
theorem KP(l m:List O)(v u:Z)(w:H){B C:Nat}(h:Sl B w v (l.map S))(k:Sl C w u (m.map S))(J:l.length<=1024000000)(hm:m.length<=1024000000):bF prog 78 #[v,u] w (.bool (decide (l=m))):=by
 obtain⟨c,Y,I,h⟩:=h;obtain⟨d,k1,k2,k⟩:=k;rcases h with⟨f,a,rfl⟩|⟨b,o,U,rfl,p⟩
 ·obtain rfl:l=[]:=by simpa using f
  have hu:∃a2,u=.slice a2 m.length d:=by
   rcases k with⟨f,a2,rfl⟩|⟨G,z,U,rfl,p⟩
   ·obtain rfl:m=[]:=by simpa using f
    exact⟨a2,rfl⟩
   exact⟨_,by rw[ay]⟩
  obtain⟨a2,rfl⟩:=hu;refine(Any.slices_Equal_string_empty laysEqS a a2 c m.length d w M0).e ?_;refine⟨?_,gT _ _⟩
  have:decide (m.length=0)=decide (([]:List O)=m):=by
   rw[decide_eq_decide,dy];exact eq_comm
  rw[this]
 rcases k with⟨f,a2,rfl⟩|⟨G,z,hb2,rfl,t⟩
 ·obtain rfl:m=[]:=by simpa using f
  by_cases i:l=[]
  ·subst i
   refine(Any.slices_Equal_string_empty laysEqS (some ⟨b,o,none⟩) a2 c 0 d w M0).e ?_;exact⟨rfl,gT _ _⟩
  have hpos:0<l.length:=eo.mpr i;rw[ay,gh i];obtain⟨n,f⟩:=V (l.length);rw[<-f]at hpos J⊢
  have hne:((n:Int) != 0)=true:=by
   have:(n:Int)≠0:=M0
   simpa using this
  clear f i p Y;go_enter func78,ntmps78;go_wp2_with fail;go_ret;exact⟨rfl,gT _ _⟩
 refine(Any.slices_Equal_string laysEqS b o (l.map S).length c G z (m.map S).length d (l.map E) (m.map E) w Oc Oc (by simp;omega) (by simp;omega) (λj g=>by
  rw[ay]at g;rw[p j (by simpa using g),oX g,cU]) (λj g=>by
  rw[ay]at g;rw[t j (by simpa using g),oX g,cU])).m ?_
 rintro e D⟨rfl,q,rfl⟩;refine⟨?_,nO (bg _)⟩
 have inj:∀l m:List O,l.map E=m.map E->l=m:=by
  intro l
  induction l with
  |nil=>intro m h;cases m with|nil=>rfl|cons _ _=>cases h
  |cons x r K =>
   intro m h;cases m with
   |nil=>cases h
   |cons y s =>
    injection h with Y I
    rw[Og Y,K s I]
 have:decide ((l.map E).take (l.map S).length=(m.map E).take (m.map S).length)=decide (l=m):=by
  rw[aP Oc,aP Oc,decide_eq_decide];exact⟨inj l m,λh=>by rw[h]⟩
 rw[this]
theorem sK{aJ:O}{p:List O}{k:Nat}(h:p.length=k+2):cE aJ p=p.take (k+1):=by
 match p,h with
 |a::b::r,h =>
  show(a::b::r).dropLast=_;rw[iN,h];rfl
theorem sJ(aJ x:O):cE aJ [x]=if aJ=aR/\jN x=true then [x]else []:=rfl
theorem Rh{w:H}{base e g n cap:Nat}{o:List O}(h:w.ownsRow base e 1 (.slice (some ⟨g,0,none⟩) n cap) n (Strs o)){j:Nat}(a:j<o.length):w.cell? ⟨g,j,none⟩=some (.string (E o[j])):=by
 have:=h.cells (g:=g) rfl j (.string (E o[j])) (by simp[a]);rw[addr_add,bM]at this;exact this
theorem a04(aJ:O)(o:List O)(v:Z)(base:Nat)(w:H)(hown:w.ownsRow base 9 1 v o.length (Strs o))(B:o.length<=1024000000)(X:∀x∈o,x.length<=1024000000) :
  Calls prog 206 #[.string (E aJ),v] w λe w'=>(∃v',e=.returned v'/\w.ownsRow base 9 1 v' (cE aJ o).length (Strs (cE aJ o)))/\w'=w:=by
 obtain⟨i1,z,hz1,hz2,hz3⟩:=info_parts lT;have i:=rI aJ [102,105,108,101];rw[aB,aB]at i;obtain⟨c,T⟩:=V (E aJ);have J:(c.toList == [102,105,108,101])=decide (aJ=[102,105,108,101]):=by rw[T,aB];exact i
 rw[<-T];clear T i;rcases hown.2 with⟨rfl,hn⟩|⟨g,cap,cur,rfl,hg,hh,d,hcm,hsz,htk⟩
 ·obtain rfl:o=[]:=az hn
  have t:=F hown;clear hown hn J;go_enter func206,ntmps206;go_wp2_with fail;go_ret;exact⟨⟨_,rfl,t.o⟩,rfl⟩
 clear hh hsz htk hg
 match o,hown,B,X,d with
 | [],hown,B,X,d =>
  have t:=F hown;clear hown J;simp only[aO];go_enter func206,ntmps206;go_wp2_with fail;go_ret;exact⟨⟨_,rfl,t.o⟩,rfl⟩
 | [x],hown,B,X,d =>
  have a:=sJ aJ x;have kc:∀W,(Instr.sliceAt 22 (.slice (some ⟨g,0,none⟩) 1 cap) none (some (.int .i64 0)) none).run prog W=.ok (.slice (some ⟨g,0,none⟩) 0 cap) W:=λW=>kI underlying22 z g 0 1 cap 0 M0 W;have hcell:=Rh hown (j:=0) Oc;have q:w.ownsRow base 9 1 (.slice (some ⟨g,0,none⟩) 0 cap) 0 []:=ownsRow_pop (xs:=[]) (last:=Strs [x]) (n:=0) rfl hown;have l:=λW=>An x W (X x Oc);obtain⟨R,hR⟩:=V (cE aJ [x]);rw[<-hR]at a⊢;simp only[gZ]at hcell;obtain⟨xx,nB⟩:=V (E x);rw[<-nB]at hcell l;obtain⟨t,L,P⟩:=cZ hown q l;simp only[cz,aO,bM];have hw0:IntKind.i64.wrap ((1:Int)-1)=0:=rfl;clear hown q l nB hR;by_cases f:aJ=[102,105,108,101]
  ·rw[gr f]at J
   cases s:jN x with
   |true =>
    rw[s]at P;rw[ge ⟨f,s⟩]at a;have u:=F a;clear a f s;go_enter func206,ntmps206
    go_wp2_with(go_at_call 162;refine(P.o _).e ?_)
    go_ret;exact⟨⟨_,rfl,by rw[u.o];exact t.o⟩,rfl⟩
   |false =>
    rw[s]at P;rw[gc (by simp[s])]at a;have u:=F a;clear a f s;go_enter func206,ntmps206
    go_wp2_with(go_at_call 162;refine(P.o _).e ?_)
    go_ret;exact⟨⟨_,rfl,by rw[u.o];exact L.o⟩,rfl⟩
  rw[gh f]at J;rw[gc (λh=>f h.1)]at a;have u:=F a;clear a f;go_enter func206,ntmps206;go_wp2_with fail;go_ret;exact⟨⟨_,rfl,by rw[u.o];exact L.o⟩,rfl⟩
 |x::y::r,hown,B,X,d =>
  obtain⟨k,M⟩:∃k,(x::y::r).length=k+2:=⟨r.length,Oc⟩;have a:=sK (aJ:=aJ) M
  have D:Strs (x::y::r)=Strs ((x::y::r).take (k+1))++(Strs (x::y::r)).drop (k+1):=by
   have e:Strs ((x::y::r).take (k+1))=(Strs (x::y::r)).take (k+1):=a6r;rw[e,cT]
  have p:((x::y::r).take (k+1)).length=k+1:=by rw[aD,M];omega
  rw[D]at hown;rw[M]at hown d B⊢;have q:w.ownsRow base 9 1 (.slice (some ⟨g,0,none⟩) (k+1) cap) (k+1) (Strs ((x::y::r).take (k+1))):=ownsRow_pop (by rw[ay,p];omega) hown;have C:cE aJ (x::y::r)=(x::y::r).take (k+1):=a;rw[C,p];generalize Strs ((x::y::r).take (k+1))=Z' at *;have kc:∀W,(Instr.sliceAt 22 (.slice (some ⟨g,0,none⟩) (k+2) cap) none (some (.int .i64 ((k+1:Nat):Int))) none).run prog W=.ok (.slice (some ⟨g,0,none⟩) (k+1) cap) W:=λW=>kI underlying22 z g 0 (k+2) cap (k+1) M0 W;obtain⟨K,hK,N,Q⟩:=ac (k+1) (k+2);rw[<-hK,<-Q]at kc;rw[<-hK]at q;rw[<-Q,<-hK];have hw0:IntKind.i64.wrap ((N:Int)-1)=(K:Int):=by rw[show(N:Int)-1=(K:Int) by omega];exact gS _ M0
  have h0:((N:Int)==0)=false:=by
   have:(N:Int)≠0:=M0
   simpa using this
  have Y:((N:Int)==1)=false:=by
   have:(N:Int)≠1:=M0
   simpa using this
  have L:=F q;clear q hown M a D p C hK Q d X;obtain⟨b,U⟩:=V (decide (aJ=[102,105,108,101]));rw[<-U]at J;clear U;cases b <;>
  ·go_enter func206,ntmps206
   go_wp2_with fail;go_ret;exact⟨⟨_,rfl,L.o⟩,rfl⟩

theorem Kl{ops:Array Oper}{rest:List Oper}{o:Oper}{a:Act}{Q:Exit->Act->H->Prop}{w:H}(p:o.guard=none)(s x:Operand)
  (J:o.op=.call {callee:=.builtin .append,args:=#[s,x],argTypes:=#[22,22]}) (K:a.eval s=.slice none 0 0)
  (n:Addr) (m c:Nat) (l:List O) (X:a.eval x=.slice (some n) m c) (D:l.length=m) (hm:m<=1024000000) (B:∀j (g:j<l.length),w.cell? (n.add j)=some (.string (E l[j])))
  (h:∀i f,f.ownsRow w.heap.size 9 1 i m (Strs l)->r7 w f->wpList prog ops Q rest (a.put o.dst i) f):wpList prog ops Q (o::rest) a w:=by
 obtain⟨L,q,t,v,z⟩:=info_parts lT;refine wpList_append_own _ p s x 22 J w.heap.size 9 L (.string ⟨#[]⟩) 1 16 underlying22 q t v z P8 P8 (.slice none 0 0) 0 [] K (iZ _ _ _ _) n m c (Strs l) X ?_ ?_ ?_ ?_ ?_ (ag _) ?_
 ·rw[ay,D];omega
 ·intro j u g
  have e:j<l.length:=by
   have:=(bh.1 g).1
   simpa using this
  rw[B j e];rw[eW,aG e]at g;exact g
 ·intro u hu
  obtain⟨y,_,rfl⟩:=dt.1 hu;rfl
 ·unfold maxLen;omega
 ·omega
 intro i f r d _;refine h i f ?_ ⟨d.os,d.tape,d.output,d.size,λk C=>d.block k C (by simp[Value.ownBlock])⟩
 simpa using r
theorem Ms{P:Program}{t e:TypeId}{i:TypeInfo}(h:P.underlying t=some (.slice e))(hi:P.info? e=some i)(d:Addr)(n c:Nat) :
  ∃f,∀W,(Instr.sliceAt t (.slice (some d) n c) none (some (.int .i64 0)) none).run P W=.ok (.slice (some f) 0 c) W:=by
 have he:P.elem t=e:=by simp[Program.elem,h]
 have a:P.underlying t=some (.slice (P.elem t)):=by rw[he];exact h
 by_cases g:c=0
 ·refine⟨d,λW=>?_⟩
  have:=run_slice_h W t (some d) n c a .i64 0 M0 M0;rw[run_sliceAt_slice W t _ _ _ _ a,this];simp[sizeOf,typeInfo,he,hi,sliced,g]
 refine⟨d.add 0,λW=>?_⟩;have:=run_slice_h W t (some d) n c a .i64 0 M0 M0;rw[run_sliceAt_slice W t _ _ _ _ a,this];simp[sizeOf,typeInfo,he,hi,sliced,g]
theorem tK(aJ:O)(p:List O)(v:Z)(w:H)(h:Sl w.heap.size w v (p.map S))(D:p.length<=1024000000)(X:∀x∈p,x.length<=1024000000) :
  Calls prog 166 #[.string (E aJ),v] w (ga w 9 (Strs (cE aJ p))):=by
 obtain⟨i1,s,hz1,hz2,hz3⟩:=info_parts lT;have B:=rI aJ [102,105,108,101];rw[aB,aB]at B;obtain⟨c,hc⟩:=V (E aJ);have T:(c.toList == [102,105,108,101])=decide (aJ=[102,105,108,101]):=by rw[hc,aB];exact B
 rw[<-hc];clear hc B;obtain⟨cap,Y,I,h⟩:=h;rcases h with⟨hn,a,rfl⟩|⟨b,o,U,rfl,ha⟩
 ·obtain rfl:p=[]:=by simpa using hn
  clear T X D;cases a with
  |none =>
   go_enter func166,ntmps166;go_wp2_with fail;go_ret;exact⟨_,rfl,iZ _ _ _ _,gT _ _⟩
  |some ad =>
   obtain⟨ad2,kc⟩:=Ms (P:=prog) underlying22 s ad 0 cap;go_enter func166,ntmps166
   go_wp2_with(at_builtin;refine Kl rfl (.const (.slice none 0 0)) 29 rfl rfl ad2 0 cap [] rfl rfl M0 (λj n=>absurd n (cL j)) ?_;intro v2 w2 hown2 f;have q:=F hown2;clear hown2;have g:=F f;clear f)
   go_ret;exact⟨_,rfl,q.o,g.o⟩
 rw[ay]at *
 have i:∀j (n:j<p.length),w.cell? ⟨b,o+j,none⟩=some (.string (E p[j])):=λj n=>by
  rw[ha j (by simpa using n),cU]
 clear ha
 match p,D,X,i,Y with
 | [],D,X,i,Y =>
  have kc:=λW=>kI (P:=prog) underlying22 s b o 0 cap 0 M0 W;clear i X T;simp only[aO];go_enter func166,ntmps166
  go_wp2_with(at_builtin;refine Kl rfl (.const (.slice none 0 0)) 29 rfl rfl ⟨b,o,none⟩ 0 cap [] rfl rfl M0 (λj n=>absurd n (cL j)) ?_;intro v2 w2 hown2 f;have q:=F hown2;clear hown2;have g:=F f;clear f)
  go_ret;exact⟨_,rfl,q.o,g.o⟩
 | [x],D,X,i,Y =>
  have l:=sJ aJ x;have kc:∀W,(Instr.sliceAt 22 (.slice (some ⟨b,o,none⟩) 1 cap) none (some (.int .i64 0)) none).run prog W=.ok (.slice (some ⟨b,o,none⟩) 0 cap) W:=λW=>kI underlying22 s b o 1 cap 0 M0 W;have kc1:∀W,(Instr.sliceAt 22 (.slice (some ⟨b,o,none⟩) 1 cap) none (some (.int .i64 1)) none).run prog W=.ok (.slice (some ⟨b,o,none⟩) 1 cap) W:=λW=>kI underlying22 s b o 1 cap 1 Y W;have hcell:=i 0 Oc;rw[dH]at hcell;have C:=λW=>An x W (X x Oc);obtain⟨R,hR⟩:=V (cE aJ [x]);rw[<-hR]at l⊢;simp only[gZ]at hcell;have u:=fo (∀j (n:j < [x].length),w.cell? ((⟨b,o,none⟩:Addr).add j)=some (.string (E [x][j]))) (λj n=>by rw[addr_add];exact i j n);obtain⟨xx,nB⟩:=V (E x);rw[<-nB]at hcell C;have mX:=F C;simp only[cz,aO,bM];have hw0:IntKind.i64.wrap ((1:Int)-1)=0:=rfl;clear C nB hR i X;by_cases z:aJ=[102,105,108,101]
  ·rw[gr z]at T
   cases J:jN x with
   |true =>
    rw[J]at mX;rw[ge ⟨z,J⟩]at l;have L:=F l;clear l z J;go_enter func166,ntmps166
    go_wp2_with(first|(go_at_call 162;refine(mX.o _).e ?_)|(at_builtin;refine Kl rfl (.const (.slice none 0 0)) 29 rfl rfl ⟨b,o,none⟩ 1 cap [x] rfl rfl M0 u.o ?_;intro v2 w3 hown2 f;have q:=F hown2;clear hown2;have g:=F f;clear f))
    go_ret;exact⟨_,rfl,by rw[L.o];exact q.o,g.o⟩
   |false =>
    rw[J]at mX;rw[gc (by simp[J])]at l;have L:=F l;clear l z J;go_enter func166,ntmps166
    go_wp2_with(first|(go_at_call 162;refine(mX.o _).e ?_)|(at_builtin;refine Kl rfl (.const (.slice none 0 0)) 29 rfl rfl ⟨b,o,none⟩ 0 cap [] rfl rfl M0 (λj n=>absurd n (cL j)) ?_;intro v2 w3 hown2 f;have q:=F hown2;clear hown2;have g:=F f;clear f))
    go_ret;exact⟨_,rfl,by rw[L.o];exact q.o,g.o⟩
  rw[gh z]at T;rw[gc (λh=>z h.1)]at l;have L:=F l;clear l z;go_enter func166,ntmps166
  go_wp2_with(at_builtin;refine Kl rfl (.const (.slice none 0 0)) 29 rfl rfl ⟨b,o,none⟩ 0 cap [] rfl rfl M0 (λj n=>absurd n (cL j)) ?_;intro v2 w3 hown2 f;have q:=F hown2;clear hown2;have g:=F f;clear f)
  go_ret;exact⟨_,rfl,by rw[L.o];exact q.o,g.o⟩
 |x::y::r,D,X,i,Y =>
  obtain⟨k,hk⟩:∃k,(x::y::r).length=k+2:=⟨r.length,Oc⟩;have Q:cE aJ (x::y::r)=(x::y::r).take (k+1):=sK (aJ:=aJ) hk;have t:((x::y::r).take (k+1)).length=k+1:=by rw[aD,hk];omega
  have u:=fo (∀j (n:j<((x::y::r).take (k+1)).length),w.cell? ((⟨b,o,none⟩:Addr).add j)=some (.string (E ((x::y::r).take (k+1))[j]))) (λj n=>by
   rw[addr_add,i j (by rw[t]at n;omega),M8])
  rw[Q];rw[hk]at Y D⊢;have M:k+1<=1024000000:=M0;generalize (x::y::r).take (k+1)=Z' at *;have kc:∀W,(Instr.sliceAt 22 (.slice (some ⟨b,o,none⟩) (k+2) cap) none (some (.int .i64 ((k+1:Nat):Int))) none).run prog W=.ok (.slice (some ⟨b,o,none⟩) (k+1) cap) W:=λW=>kI underlying22 s b o (k+2) cap (k+1) M0 W;obtain⟨K,hK,N,hN⟩:=ac (k+1) (k+2);rw[<-hK,<-hN]at kc;rw[<-hK]at t M;rw[<-hN];have hw0:IntKind.i64.wrap ((N:Int)-1)=(K:Int):=by rw[show(N:Int)-1=(K:Int) by omega];exact gS _ M0
  have h0:(0:Int)<N:=M0
  have h1':((N:Int)==1)=false:=by
   have:(N:Int)≠1:=M0
   simpa using this
  have zF:=F t;clear hk Q t hK hN X i;obtain⟨d,hd⟩:=V (decide (aJ=[102,105,108,101]));rw[<-hd]at T;clear hd;cases d <;>
  ·go_enter func166,ntmps166
   go_wp2_with(at_builtin;refine Kl rfl (.const (.slice none 0 0)) 29 rfl rfl ⟨b,o,none⟩ K cap Z' rfl zF.o M u.o ?_;intro v2 w3 hown2 f;have q:=F hown2;clear hown2;have g:=F f;clear f)
   go_ret;exact⟨_,rfl,by rw[ay,zF.o];exact q.o,g.o⟩

theorem GR(aJ:O)(o:List O)(p:O)(r:List O):kH aJ o (p::r)=kH aJ (kT aJ o p (decide (r=[]))) r:=by
 cases r with
 |nil=>rfl
 |cons q t=>rfl
theorem RU{aJ:O}{o a:List O}{k:Nat}(h:k<a.length):kH aJ o (a.drop k)=kH aJ (kT aJ o a[k] (decide (k+1=a.length))) (a.drop (k+1)):=by
 rw[aC h,GR]
 have:decide (a.drop (k+1)=[])=decide (k+1=a.length):=by
  rw[decide_eq_decide,List.drop_eq_nil_iff];omega
 rw[this]
theorem sI(aJ:O)(p:List O):(cE aJ p).length<=p.length:=by
 match p with
 | []=>exact ag _
 | [x] =>
  rw[sJ]
  split <;>simp
 |a::b::r =>
  rw[sK (k:=r.length) Oc,aD];omega
theorem y6{sp:Bool}:∀{s p:O},p∈gE sp s->p.length<=s.length
 | [],p,h=>by
  have:p=[]:=by simpa[gE]using h
  rw[this];exact ag _
 |c::t,p,h=>by
  rw[gE]at h;have a:=λq (d:q∈gE sp t)=>y6 d
  split at h
  ·rcases aK.mp h with rfl|h
   ·simp
   have:=a p h;rw[cz];omega
  split at h
  ·have:p=[c]:=by simpa using h
   rw[this];simp
  next q qs he =>
  rw[he]at a;rcases aK.mp h with rfl|h
  ·have:=a q (by simp)
   simp only[cz];omega
  have:=a p (by simp[h]);rw[cz];omega
theorem gj(aJ s:O)(path:List O)(A:Z)(w:H)(h:Sl w.heap.size w A (path.map S))(hs:s.length<=307200000)(hl:path.length<=307200000)(X:∀x∈path,x.length<=1024000000) :
  Calls prog 164 #[.string (E aJ),A,.string (E s)] w (ga w 9 (Strs (da aJ path s))):=by
 obtain⟨i1,K,N,P,Q⟩:=info_parts lT;have hsp:=λW=>gl aJ W;have hss:=λW=>GZ s (eU aJ) W M0;have hup:=λ(o:List O) v base W (hown:World.ownsRow W base 9 1 v o.length (Strs o)) Y I=>a04 aJ o v base W hown Y I;have hfe:=rI aJ [102,105,108,101];rw[aB,aB]at hfe;obtain⟨c,hc⟩:=V (E aJ);have qU:(c.toList == [102,105,108,101])=decide (aJ=[102,105,108,101]):=by rw[hc,aB];exact hfe
 rw[<-hc]at hsp hup⊢;clear hc hfe;obtain⟨R,hR⟩:=V (da aJ path s);rw[<-hR];unfold da at hR;have B:=λp (hp:p∈gE (eU aJ) s)=>y6 hp;have j:=DG (eU aJ) s;generalize eU aJ=sp at *;generalize gE sp s=T at hss hR B j;generalize E s=t at hss⊢;obtain⟨n,hn⟩:=V (T.length);have hnm:n<=307200001:=M0;have ji:=F hsp;clear hsp;have Hw:=F hss;clear hss;have Bg:=F hup;clear hup;have HR:=F hR;clear hR;obtain⟨HPL,HN,HH,HX,HLP⟩:=ec (show ∀p∈T,p.length<=307200000 from λp hp=>am (B p hp) hs) hn h X hl;clear B j hs h X hl hn;go_enter func164,ntmps164
 go_upto_region 3 with(first|(go_at_call 119;refine(ji.o _).e ?_)|(go_at_call 204;refine(Hw.o _).m ?_;rintro e w2⟨v2,rfl,ho,U⟩;have HO:=F ho;have HB2:=F U;clear ho U)|(go_at_call 54;refine(fQ path A _ ((HH.o.below HB2.o).more HB2.o.size) (by have:=HLP.o;omega)).m ?_;rintro e w3⟨v3,rfl,ho,U⟩;have J:=F ho;have HB3:=F U;clear ho U))
 have L:=Sl.g9 HO.o;obtain⟨a2,c2,hv2⟩:=ex HO.o;subst hv2;rw[ay,<-HN.o]at L⊢;have HPS:=F L;have HB:=F HB3.o;clear HO L Hw;go_wp2_with fail
 go_loopw [8,20] (λov iv wr=>∃(k:Nat) (o:List O),k<=n/\iv=.int .i64 k/\Hid (wr.ownsRow w2.heap.size 9 1 ov o.length (Strs o))/\Hid (kH aJ o (T.drop k)=R/\o.length<=307200000+k/\∀x∈o,x.length<=1024000000)/\Hid (r7 w2 wr)) (λ_ i _=>n-(intOf i).toNat)
 exact⟨0,path,M0,Oc,by have:=J.o;rw[ay]at this;exact this,⟨HR.o.symm,by have:=HLP.o;omega,HX.o⟩,HB.o⟩
 clear J HB3 HB;obtain⟨k,o,hk,rfl,HO,hinv,HB⟩:=hrel;obtain⟨ov,oc,hov⟩:=ex HO.o;subst hov;by_cases hlt:k<n
 ·have hkl:k<T.length:=by rw[<-HN.o];exact hlt
  obtain⟨G,o2,rfl,hb2,hcell⟩:=gO (HPS.o.below HB.o) k hkl;obtain⟨hst,hol,hox⟩:=hinv.o;rw[RU hkl,<-HN.o]at hst;have B:=HPL.o _ (be hkl);have IN:=λW=>OQ T[k] W M0;have nA:=λW=>b8h T[k] W M0;have U5:=λW=>oM T[k] W M0;have henc:=λW=>eT 4 T[k] W M0;have PR:=gv 4 T[k];generalize T[k]=p at hst hcell IN nA U5 henc B PR;clear hinv;have l:w2.heap.size<=wr.heap.size:=HB.o.size;obtain⟨M,hM⟩:∃M,n=M+1:=⟨n-1,M0⟩;have hwM:IntKind.i64.wrap ((n:Int)-1)=(M:Int):=by rw[show(n:Int)-1=(M:Int) by omega];exact gS _ M0
  obtain⟨la,hla⟩:=V (decide (k+1=n))
  have hlb:((k:Int)==(M:Int))=la:=by
   rw[hla,bX,beq_iff_eq,gx];omega
  rw[<-hla]at hst;obtain⟨pb,hpb⟩:=V (E p);replace hcell:World.cell? _ _=some (.string (E p)):=hcell;rw[<-hpb]at hcell IN nA U5 henc;have hsg:kT aJ o p la=if jC p=true then(if la=true then cE aJ o++[[]]else cE aJ o)else if kC p=true then(if la=true then o++[[]]else o)else if aJ=[102,105,108,101]/\o=[]/\dJ p=true then o++[p.take 1++[58]]else o++[dD 4 p]:=rfl;have uI:=fo (∀o',o'=kT aJ o p la->o'.length<=o.length+1->(∀x∈o',x.length<=1024000000)->(kH aJ o' (T.drop (k+1))=R/\o'.length<=307200000+(k+1)/\∀x∈o',x.length<=1024000000)) (λo' Y I h3=>⟨by rw[Y];exact hst,M0,h3⟩);have hos:∀x∈cE aJ o,x.length<=1024000000:=λx X=>hox x (kh X);have Lg:=sI aJ o;obtain⟨ma,V9,HOS,HOL,Hr,WU,HDV,zC⟩:=er hsg hox hos hol IN nA U5 henc;obtain⟨HPB,HEL,a7U⟩:=cZ hpb PR B;have a9Q:o.length<=614400001:=M0;obtain⟨ol,hole⟩:=V (o.length);have hown:=HO.o;rw[<-hole]at hown a9Q⊢;have xu:=F hown;have C:=F hole;have hwk:IntKind.i64.wrap ((k:Int)+1)=((k+1:Nat):Int):=by rw[show(k:Int)+1=((k+1:Nat):Int) by omega];exact gS _ M0
  have hE:(E []:ByteArray)=⟨#[]⟩:=rfl;clear hM hole hst hox hol hla hpb hsg hos IN nA U5 henc PR B hown HO HH HX HLP HPL;cases ZV:jC p with
  |true =>
   rw[ZV]at Hr ma;have a4t:(cE aJ o).length<=ol:=by rw[C.o];exact Lg
   obtain⟨sl,j⟩:=V ((cE aJ o).length);rw[<-j]at a4t;cases la with
   |true =>
    have HS:=F (show cE aJ o++[[]]=kT aJ o p true by rw[ma.o];rfl);have y:=F j
    have u:=F<|uI.o _ HS.o (by rw[ae,<-y.o,<-C.o];simp;omega) (λx X=>by
     rcases bO.mp X with X|X
     ·exact HOS.o x X
     rw[dS.mp X];simp)
    have mY:=F<|jg (cE aJ o) [];clear ZV j Lg
    go_wp2_with(first|(go_at_call 205;refine(Hr.o _).k λx1 U=>?_;have z:=F<|own_below xu.o U.o;have a:=F<|HB.o.trans (U.o.m l);have Ge:=U.o.size;clear U)|(go_at_call 206;refine(Bg.o o _ w2.heap.size _ (by rw[<-C.o];exact z.o) (by rw[<-C.o];omega) V9.o).m ?_;rintro e x2⟨⟨v4,rfl,ho⟩,hw⟩;subst hw;have d:=ho;rw[<-y.o]at d;have qp:=F d;obtain⟨a4,c4,hv4⟩:=ex d;subst hv4;clear ho d)|(at_builtin;(refine et rfl 42 43 _ rfl w2.heap.size 9 i1 (.string ⟨#[]⟩) 16 underlying22 K N P Q P8 _ _ sl (Strs (cE aJ o)) rfl qp.o (.string ⟨#[]⟩) rfl rfl M0 P8 M0 ?_);intro v9 w9 q Qa r;have Ka:=F q;clear q;have jo:=F r;clear r))
    go_roundw
    exact⟨k+1,cE aJ o++[[]],M0,Oc,by rw[mY.o,ae,<-y.o];exact Ka.o,u.o,a.o.trans jo.o⟩
    exact aa
   |false =>
    have HS:=F (show cE aJ o=kT aJ o p false by rw[ma.o];rfl);have y:=F j;have u:=F<|uI.o _ HS.o (by rw[<-y.o,<-C.o];omega) HOS.o;clear ZV j Lg
    go_wp2_with(first|(go_at_call 205;refine(Hr.o _).k λx1 U=>?_;have z:=F<|own_below xu.o U.o;have a:=F<|HB.o.trans (U.o.m l);have Ge:=U.o.size;clear U)|(go_at_call 206;refine(Bg.o o _ w2.heap.size _ (by rw[<-C.o];exact z.o) (by rw[<-C.o];omega) V9.o).m ?_;rintro e x2⟨⟨v4,rfl,ho⟩,hw⟩;subst hw;have d:=ho;rw[<-y.o]at d;have qp:=F d;obtain⟨a4,c4,hv4⟩:=ex d;subst hv4;clear ho d))
    go_roundw
    exact⟨k+1,cE aJ o,M0,Oc,by rw[<-y.o];exact qp.o,u.o,a.o⟩
    exact aa
  |false =>
   rw[ZV]at Hr ma;cases hqt:kC p with
   |true =>
    rw[hqt]at WU ma;cases la with
    |true =>
     have HS:=F (show o++[[]]=kT aJ o p true by rw[ma.o];rfl)
     have u:=F<|uI.o _ HS.o (by rw[ae];simp) (λx X=>by
      rcases bO.mp X with X|X
      ·exact V9.o x X
      rw[dS.mp X];simp)
     have mY:=F<|jg o [];clear ZV hqt Lg
     go_wp2_with(first|(go_at_call 205;refine(Hr.o _).k λx1 U=>?_;have z:=F<|own_below xu.o U.o;have a:=F<|HB.o.trans (U.o.m l);have Ge:=U.o.size;clear U)|(go_at_call 207;refine(WU.o _).k λy1 U=>?_;have J:=F<|own_below z.o U.o;have D:=F<|a.o.trans (U.o.m a.o.size);have Qg:=U.o.size;clear U)|(at_builtin;(refine et rfl 49 50 _ rfl w2.heap.size 9 i1 (.string ⟨#[]⟩) 16 underlying22 K N P Q P8 _ _ ol (Strs o) rfl J.o (.string ⟨#[]⟩) rfl rfl M0 P8 M0 ?_);intro v9 w9 q Qa r;have Ka:=F q;clear q;have jo:=F r;clear r))
     go_roundw
     exact⟨k+1,o++[[]],M0,Oc,by rw[mY.o,ae,<-C.o];exact Ka.o,u.o,D.o.trans jo.o⟩
     exact aa
    |false =>
     have HS:=F (show o=kT aJ o p false by rw[ma.o];rfl);have u:=F<|uI.o _ HS.o M0 V9.o;clear ZV hqt Lg
     go_wp2_with(first|(go_at_call 205;refine(Hr.o _).k λx1 U=>?_;have z:=F<|own_below xu.o U.o;have a:=F<|HB.o.trans (U.o.m l);have Ge:=U.o.size;clear U)|(go_at_call 207;refine(WU.o _).k λy1 U=>?_;have J:=F<|own_below z.o U.o;have D:=F<|a.o.trans (U.o.m a.o.size);have Qg:=U.o.size;clear U))
     go_roundw
     exact⟨k+1,o,M0,Oc,by rw[<-C.o];exact J.o,u.o,D.o⟩
     exact aa
   |false =>
    rw[hqt]at WU ma;have f:kT aJ o p la=if aJ=[102,105,108,101]/\o=[]/\dJ p=true then o++[p.take 1++[58]]else o++[dD 4 p]:=ma.o
    have h2p:dJ p=true->p.length=2:=λh=>by
     by_cases hq:p.length=2
     ·exact hq
     rw[(qL hq).1]at h;cases h
    have yB:(o=[]) ↔ ol=0:=by rw[C.o];exact dy.symm
    clear ma ZV hqt Lg
    have henc:¬(aJ=[102,105,108,101]/\o=[]/\dJ p=true)->(kH aJ (o++[dD 4 p]) (T.drop (k+1))=R/\(o++[dD 4 p]).length<=307200000+(k+1)/\∀x∈o++[dD 4 p],x.length<=1024000000):=λhno=>by
     rw[gc hno]at f;refine uI.o _ f.symm (by rw[ae];simp) (λx X=>?_);rcases bO.mp X with X|X
     ·exact V9.o x X
     rw[dS.mp X];have:=HEL.o;have:=a7U.o;omega
    have mY:=F<|jg o (dD 4 p);obtain⟨eb,Td⟩:=V (E (dD 4 p));rw[<-Td]at mY;replace zC:=fo (∀W,bF prog 167 #[.string pb,.int .i64 4] W (.string eb)) (by rw[Td];exact zC.o);have EA:=F henc;clear henc Td;by_cases hf:aJ=[102,105,108,101]
    ·rw[gr hf]at qU
     by_cases ho0:ol=0
     ·cases Tf:dJ p with
      |true =>
       have hp2:=h2p Tf;rw[Tf]at HDV;have hex:pb.extract 0 1=E (p.take 1):=by rw[HPB.o];exact nY p 1
       obtain⟨d1,hd1⟩:=V (E (p.take 1));rw[<-hd1]at hex;have hpz:pb.size=2:=by rw[HPB.o,aF,hp2]
       have hdz:d1.size=1:=by rw[hd1,aF,aD,hp2];rfl
       obtain⟨d2,hd2⟩:=V (E (p.take 1++[58]));have hap:d1++(⟨#[58]⟩:ByteArray)=d2:=by rw[hd1,hd2,show(⟨#[58]⟩:ByteArray)=E [58]from rfl,mm]
       rw[ge ⟨hf,yB.mpr ho0,Tf⟩]at f
       have u:=F<|uI.o _ f.symm (by rw[ae];simp) (λx X=>by
        rcases bO.mp X with X|X
        ·exact V9.o x X
        rw[dS.mp X,ae,aD];simp;omega)
       have a2w:=F<|jg o (p.take 1++[58]);rw[<-hd2]at a2w;clear f h2p yB Tf hp2 hd1 hd2 hf EA mY;subst ho0
       go_wp2_with(first|(go_at_call 205;refine(Hr.o _).k λx1 U=>?_;have z:=F<|own_below xu.o U.o;have a:=F<|HB.o.trans (U.o.m l);have Ge:=U.o.size;clear U)|(go_at_call 207;refine(WU.o _).k λy1 U=>?_;have J:=F<|own_below z.o U.o;have D:=F<|a.o.trans (U.o.m a.o.size);have Qg:=U.o.size;clear U)|(go_at_call 202;refine(HDV.o _).e ?_)|(at_builtin;(refine et rfl 64 68 _ rfl w2.heap.size 9 i1 (.string ⟨#[]⟩) 16 underlying22 K N P Q P8 _ _ 0 (Strs o) rfl J.o (.string d2) rfl rfl M0 P8 M0 ?_);intro v9 w9 q Qa r;have Ka:=F q;clear q;have jo:=F r;clear r))
       go_roundw
       exact⟨k+1,o++[p.take 1++[58]],M0,Oc,by rw[a2w.o,ae,<-C.o];exact Ka.o,u.o,D.o.trans jo.o⟩
       exact aa
      |false =>
       rw[Tf]at HDV;have u:=F<|EA.o (λh=>by rw[Tf]at h;cases h.2.2);clear f h2p yB Tf hf EA;subst ho0
       go_wp2_with(first|(go_at_call 205;refine(Hr.o _).k λx1 U=>?_;have z:=F<|own_below xu.o U.o;have a:=F<|HB.o.trans (U.o.m l);have Ge:=U.o.size;clear U)|(go_at_call 207;refine(WU.o _).k λy1 U=>?_;have J:=F<|own_below z.o U.o;have D:=F<|a.o.trans (U.o.m a.o.size);have Qg:=U.o.size;clear U)|(go_at_call 202;refine(HDV.o _).e ?_)|(go_at_call 167;refine(zC.o _).k λy2 U=>?_;have xn:=F<|own_below J.o U.o;have HBZ:=F<|D.o.trans (U.o.m D.o.size);have a4T:=U.o.size;clear U)|(at_builtin;(refine et rfl 30 33 _ rfl w2.heap.size 9 i1 (.string ⟨#[]⟩) 16 underlying22 K N P Q P8 _ _ 0 (Strs o) rfl xn.o (.string eb) rfl rfl M0 P8 M0 ?_);intro v9 w9 q Qa r;have Ka:=F q;clear q;have jo:=F r;clear r))
       go_roundw
       exact⟨k+1,o++[dD 4 p],M0,Oc,by rw[mY.o,ae,<-C.o];exact Ka.o,u.o,HBZ.o.trans jo.o⟩
       exact aa
     have Vc:((ol:Int)==0)=false:=by
      have:(ol:Int)≠0:=M0
      simpa using this
     have u:=F<|EA.o (λh=>ho0 (yB.mp h.2.1));clear f h2p yB hf EA ho0
     go_wp2_with(first|(go_at_call 205;refine(Hr.o _).k λx1 U=>?_;have z:=F<|own_below xu.o U.o;have a:=F<|HB.o.trans (U.o.m l);have Ge:=U.o.size;clear U)|(go_at_call 207;refine(WU.o _).k λy1 U=>?_;have J:=F<|own_below z.o U.o;have D:=F<|a.o.trans (U.o.m a.o.size);have Qg:=U.o.size;clear U)|(go_at_call 167;refine(zC.o _).k λy2 U=>?_;have xn:=F<|own_below J.o U.o;have HBZ:=F<|D.o.trans (U.o.m D.o.size);have a4T:=U.o.size;clear U)|(at_builtin;(refine et rfl 30 33 _ rfl w2.heap.size 9 i1 (.string ⟨#[]⟩) 16 underlying22 K N P Q P8 _ _ ol (Strs o) rfl xn.o (.string eb) rfl rfl M0 P8 M0 ?_);intro v9 w9 q Qa r;have Ka:=F q;clear q;have jo:=F r;clear r))
     go_roundw
     exact⟨k+1,o++[dD 4 p],M0,Oc,by rw[mY.o,ae,<-C.o];exact Ka.o,u.o,HBZ.o.trans jo.o⟩
     exact aa
    rw[gh hf]at qU;have u:=F<|EA.o (λh=>hf h.1);clear f h2p yB hf EA
    go_wp2_with(first|(go_at_call 205;refine(Hr.o _).k λx1 U=>?_;have z:=F<|own_below xu.o U.o;have a:=F<|HB.o.trans (U.o.m l);have Ge:=U.o.size;clear U)|(go_at_call 207;refine(WU.o _).k λy1 U=>?_;have J:=F<|own_below z.o U.o;have D:=F<|a.o.trans (U.o.m a.o.size);have Qg:=U.o.size;clear U)|(go_at_call 167;refine(zC.o _).k λy2 U=>?_;have xn:=F<|own_below J.o U.o;have HBZ:=F<|D.o.trans (U.o.m D.o.size);have a4T:=U.o.size;clear U)|(at_builtin;(refine et rfl 30 33 _ rfl w2.heap.size 9 i1 (.string ⟨#[]⟩) 16 underlying22 K N P Q P8 _ _ ol (Strs o) rfl xn.o (.string eb) rfl rfl M0 P8 M0 ?_);intro v9 w9 q Qa r;have Ka:=F q;clear q;have jo:=F r;clear r))
    go_roundw
    exact⟨k+1,o++[dD 4 p],M0,Oc,by rw[mY.o,ae,<-C.o];exact Ka.o,u.o,HBZ.o.trans jo.o⟩
    exact aa
 obtain rfl:k=n:=M0;obtain⟨Y,_,_⟩:=hinv.o;have hdr:T.drop k=[]:=bE (by rw[<-HN.o];exact ag _);rw[hdr]at Y;have HRR:=fo (R=o) Y.symm;clear Y hdr hinv;go_wp2_with fail;go_ret;refine⟨_,rfl,?_,dw HB2.o HB.o⟩;rw[HRR.o,ay];have h:=HO.o;rcases h.2 with⟨e1,e2⟩|⟨g,cap,cur,e1,e2,e3⟩
 ·exact⟨h.1,.inl ⟨e1,e2⟩⟩
 exact⟨h.1,.inr ⟨g,cap,cur,e1,am HB2.o.size e2,e3⟩⟩

structure Tn (b:Nat) (w w':H):Prop where
 s:w.heap.size<=w'.heap.size
 k:∀j,j<w.heap.size->j≠b->w'.heap[j]?= w.heap[j]?
section
variable {b:Nat} {w w' w2:H}
theorem Tn.refl(b:Nat)(w:H):Tn b w w:=⟨ag _,λ_ _ _=>rfl⟩
theorem Tn.trans(h:Tn b w w')(k:Tn b w' w2):Tn b w w2:=⟨am h.s k.s,λj a c=>(k.k j (aN a h.s) c).trans (h.k j a c)⟩
theorem Tn.of_below(h:r7 w w'):Tn b w w':=⟨h.size,λj a _=>h.block j a⟩
theorem Tn.below(h:Tn b w w')(k:r7 w' w2):Tn b w w2:=h.trans (Tn.of_below k)
theorem Tn.cb(h:Tn b w w'){g:Nat}{T:TypeId}{cs:Array Z}(i:CB w g T cs)(c:g≠b):CB w' g T cs:=⟨(h.k g i.lt c).trans i.a⟩
theorem Tn.row(h:Tn b w w'){base e n:Nat}{v:Z}{xs:List Z}(i:w.ownsRow base e 1 v n xs)(U:b<base):w'.ownsRow base e 1 v n xs:=by
 refine⟨i.1,?_⟩;rcases i.2 with c|⟨g,cap,cur,a,d,hh,f⟩
 ·exact .inl c
 exact .inr ⟨g,cap,cur,a,d,(h.k g (bw.1 hh).1 M0).trans hh,f⟩
end
section
variable {P:Program} {ops:Array Oper} {rest:List Oper} {o:Oper} {a:Act} {w:H} {K:Act->H->Prop} {Q:Exit->Act->H->Prop}
theorem wU{w0:H}{b:Nat}{T:TypeId}{cs:Array Z}(i:OB w0 b T cs w)(k:Nat)(v:Z):Tn b w (w.setCell ⟨b,k,none⟩ v):=by
 rw[setCell_eq_setRow w b k cs T (0,0) v i.a];exact⟨by rw[setRow_size];exact ag _,λj _ c=>setRow_other w b j _ c⟩
theorem tO{w0:H}{b:Nat}{T:TypeId}:∀(vs:List Z) (k:Nat) {cs:Array Z} {w:H},OB w0 b T cs w->Tn b w (w.setCells b k vs)
 | [],_,_,w,_=>Tn.refl b w
 |v::r,k,_,_,i=>(wU i k v).trans (tO r (k+1) (i.setCell k v))
theorem fX(ty:TypeId)(x y:Operand)(f:o.op=.store ty x y)(w0:H)(b:Nat)(T:TypeId)(cs:Array Z)(i:OB w0 b T cs w)(k:Nat)(v:Z)(X:a.eval x=.pointer (some ⟨b,k,none⟩))(hy:a.eval y=v)
  (e:k<cs.size) (hi:(P.info? ty).map (·.size)=some 1) (Y:v.oneCell'=true) (c:Array Z) (d:cs.setIfInBounds k v=c)
  (h:∀w',OB w0 b T c w'->Tn b w w'->K (a.put o.dst undef) w'):Oper.wp P o a w K Q:=by
 unfold Oper.wp execOp;simp only[f,X,hy,Instr.storeAt,Instr.sureAddr,h2,io,h1,oz w b k ty T cs v i.a e hi Y];exact h _ (d▸i.setCell k v) (wU i k v)
theorem j5(ty:TypeId)(x y:Operand)(f:o.op=.store ty x y)(w0:H)(b:Nat)(T:TypeId)(cs:Array Z)(i:OB w0 b T cs w)(k:Nat)(vs:List Z)(X:a.eval x=.pointer (some ⟨b,k,none⟩))(hy:a.eval y=.agg vs.toArray)
  (e:k+vs.length<=cs.size) (hi:(P.info? ty).map (·.size)=some vs.length) (Y:∀v∈vs,v.oneCell'=true) (c:Array Z) (d:ua cs k vs=c)
  (h:∀w',OB w0 b T c w'->Tn b w w'->K (a.put o.dst undef) w'):Oper.wp P o a w K Q :=
 wp_store_mid ty x y f b k vs.toArray X hy (i.there (by simpa using e)) (by simpa using hi) (all_oneCell_toArray Y) (h _ (d▸i.setCells vs k) (tO vs k i))
theorem dX(d:o.guard=none)(ty:TypeId)(x y:Operand)(g:o.op=.store ty x y)(w0:H)(b:Nat)(T:TypeId)(cs:Array Z)(i:OB w0 b T cs w)(k:Nat)(v:Z)(X:a.eval x=.pointer (some ⟨b,k,none⟩))(hy:a.eval y=v)
  (f:k<cs.size) (hi:(P.info? ty).map (·.size)=some 1) (Y:v.oneCell'=true) (c:Array Z) (e:cs.setIfInBounds k v=c)
  (h:∀w',OB w0 b T c w'->Tn b w w'->wpList P ops Q rest (a.put o.dst undef) w'):wpList P ops Q (o::rest) a w :=
 wpList_plain d λ_ hK=>fX ty x y g w0 b T cs i k v X hy f hi Y c e λw' Y I=>hK _ _ (h w' Y I)
theorem rh(d:o.guard=none)(ty:TypeId)(x y:Operand)(g:o.op=.store ty x y)(w0:H)(b:Nat)(T:TypeId)(cs:Array Z)(i:OB w0 b T cs w)(k:Nat)(vs:List Z)(X:a.eval x=.pointer (some ⟨b,k,none⟩))(hy:a.eval y=.agg vs.toArray)
  (f:k+vs.length<=cs.size) (hi:(P.info? ty).map (·.size)=some vs.length) (Y:∀v∈vs,v.oneCell'=true) (c:Array Z) (e:ua cs k vs=c)
  (h:∀w',OB w0 b T c w'->Tn b w w'->wpList P ops Q rest (a.put o.dst undef) w'):wpList P ops Q (o::rest) a w :=
 wpList_plain d λ_ hK=>j5 ty x y g w0 b T cs i k vs X hy f hi Y c e λw' Y I=>hK _ _ (h w' Y I)
end
theorem fP{A:Z}{u:Url}{k:Nat}(h:u.host.six.length=8)(c:k<23):k<(ai A u).size:=by rw[kJ h];exact c
theorem zp{A:Z}{u:Url}{g:gF}(h:u.host.six.length=8)(c:g.six.length=8):3+(aS g).length<=(ai A u).size:=by rw[kJ h];simp[aS,c]
theorem wj(aJ s:O)(w:H)(q:s.length<=307200000):Calls prog 170 #[.string (E aJ),.string (E s)] w (ga w 9 (Strs (gW aJ s))):=by
 have d:=λW=>k9 aJ s W M0;have Y:=λW=>gj aJ s [] aI W Sl.nil q Oc Oc;have I:=λW=>gj aJ (s.drop 1) [] aI W Sl.nil (by rw[aj];omega) Oc Oc;have hle:=AT (eU aJ) s;obtain⟨R,f⟩:=V (gW aJ s);rw[<-f];unfold gW at f;generalize E aJ=c at *;generalize uE (eU aJ) s=k at *;obtain⟨t,j⟩:=V (E s);have i:t.size=s.length:=by rw[j,aF]
 have hex:t.extract 1 t.size=E (s.drop 1):=by rw[j];exact gn s 1 _ (aF s)
 rw[<-j]at d Y⊢;clear j;obtain⟨N,n⟩:=V (t.size);have y:t.size=N:=n.symm;rw[y]at hex;obtain⟨u,hu⟩:=V (E (s.drop 1));rw[<-hu]at hex I;have g:=F d;by_cases r:0<k
 ·rw[ge r]at f
  rw[<-f]at I;have x:=F I;have p:(0:Int)<k:=M0;have hN1:1<=N:=M0;have UY:(1:Int)<=N:=M0;clear d Y I hle f hu n i q;go_enter func170,ntmps170
  go_wp2_with(first|(go_at_call 160;refine(g.o _).e ?_)|(go_at_call 164;refine(x.o _).m ?_;rintro e z⟨v,rfl,h,U⟩;have l:=F h;have HB:=F U;clear h U))
  go_ret;exact⟨_,rfl,l.o,HB.o⟩
 rw[gc r]at f;rw[<-f]at Y;have H1:=F Y;have p:¬(0:Int)<k:=M0;clear d Y I hle f hu n i q hex;go_enter func170,ntmps170
 go_wp2_with(first|(go_at_call 160;refine(g.o _).e ?_)|(go_at_call 164;refine(H1.o _).m ?_;rintro e z⟨v,rfl,h,U⟩;have l:=F h;have HB:=F U;clear h U))
 go_ret;exact⟨_,rfl,l.o,HB.o⟩

theorem mU(w0:H)(b:Nat)(A m:Z)(u c:Url)(w:H)(i:OB w0 b 34 (ai A u) w)(y:u.host.six.length=8)(b8:c.host.six.length=8) :
  Calls prog 172 #[.pointer (some ⟨b,0,none⟩),.agg (ai m c)] w λe w'=>e=.returned (.tuple #[])/\OB w0 b 34 (ai A (takeA u c)) w'/\Tn b w w':=by
 obtain⟨x,p,B8,r,v⟩:=ec i y b8 (ry m c b8) (show(prog.info? 32).map (·.size)=some (aS c.host).length by rw[jb];simp[aS,b8]);clear y b8;go_enter func172,ntmps172
 go_upto_region 1 with fail
 have X:=CB.new w 34 (ai m c);have U:=(gT w.heap.size w).alloc (ag _) (.cells (ai m c) 34);have f:w.heap.size≠b:=by have:=x.o.lt;omega
 obtain⟨w2,t⟩:=V (w.alloc (.cells (ai m c) 34));rw[<-t]at X U⊢;obtain⟨q,s⟩:=V (w.heap.size);have HB:=F U;rw[<-s]at X f⊢;have l:=F X;clear t s X U;obtain⟨I0,C0,L⟩:=cZ ((x.o.below HB.o).below (bG (bg _))) (l.o.keep (bG (bg _))) ((Tn.of_below (b:=b) HB.o).below (bG (bg _)));refine wp_region_held_drew (S:=λW=>CB W q 34 (ai m c)) Rz (by first|exact l.o.keep (bG (bg _))|exact n.o|exact k.o|exact j.o|exact h.o|exact g.o) (λhHeld=>?_);refine ek 0 ?_;refine ek 1 ?_;refine ek 2 ?_;refine ek 3 ?_;refine ek 4 ?_;refine ek 5 ?_;refine e_l 6 rfl (λ_ hS=>bK 9 9 rfl q 1 (S c.usr) _ underlying9 rfl rfl (hS.aE r.o.usr)) ?_
 refine ek 7 ?_;refine e_l 8 rfl (λ_ hS=>bK 9 11 rfl q 2 (S c.ib) _ underlying9 rfl rfl (hS.aE r.o.ib)) ?_
 refine ek 9 ?_;refine e_l 10 rfl (λ_ hS=>gU 32 13 rfl q 3 (aS c.host) _ underlying32 rfl v.o rfl (hS.range r.o.host)) ?_
 refine ek 11 ?_;refine e_l 12 rfl (λ_ hS=>bK 4 15 rfl q 14 (.bool c.bz) _ underlying4 rfl rfl (hS.aE r.o.bz)) ?_
 refine ek 13 ?_;refine e_l 14 rfl (λ_ hS=>bK 3 17 rfl q 15 (.int .i64 c.port) _ underlying3 rfl rfl (hS.aE r.o.port)) ?_
 refine ek 15 ?_;refine ek 16 ?_;refine rn 17 Rz rfl r5 (λK hK=>?_);refine fX 9 20 10 rfl w0 b 34 (ai A u) I0.o 1 (S c.usr) rfl rfl (fP p.o P8) bY.1 rfl (ai A {u with usr:=c.usr}) ((fO A u p.o).usr _) ?_;intro x1 d t1;obtain⟨z,g,M⟩:=cZ d (t1.cb C0.o f) (L.o.trans t1);clear d t1;refine hK.out _ _ g.o (λhHeld=>?_);clear hK K
 try simp only[Act.put]
 refine ek 18 ?_;refine ek 19 ?_;refine rn 20 Rz rfl r5 (λK hK=>?_);refine fX 9 22 12 rfl w0 b 34 (ai A {u with usr:=c.usr}) z.o 2 (S c.ib) rfl rfl (fP p.o P8) bY.1 rfl (ai A {u with usr:=c.usr,ib:=c.ib}) ((fO A {u with usr:=c.usr} p.o).ib _) ?_;intro x2 d t1;obtain⟨B,h,N⟩:=cZ d (t1.cb g.o f) (M.o.trans t1);clear d t1;refine hK.out _ _ h.o (λhHeld=>?_);clear hK K
 try simp only[Act.put]
 refine ek 21 ?_;refine ek 22 ?_;refine rn 23 Rz rfl r5 (λK hK=>?_);refine j5 32 24 14 rfl w0 b 34 (ai A {u with usr:=c.usr,ib:=c.ib}) B.o 3 (aS c.host) rfl rfl (zp p.o B8.o) v.o jX (ai A {u with usr:=c.usr,ib:=c.ib,host:=c.host}) (sP A {u with usr:=c.usr,ib:=c.ib} c.host B8.o p.o) ?_;intro x3 d t1;obtain⟨C,j,R⟩:=cZ d (t1.cb h.o f) (N.o.trans t1);clear d t1;refine hK.out _ _ j.o (λhHeld=>?_);clear hK K
 try simp only[Act.put]
 refine ek 24 ?_;refine ek 25 ?_;refine rn 26 Rz rfl r5 (λK hK=>?_);refine fX 4 26 16 rfl w0 b 34 (ai A {u with usr:=c.usr,ib:=c.ib,host:=c.host}) C.o 14 (.bool c.bz) rfl rfl (fP B8.o P8) bY.2.2 rfl (ai A {u with usr:=c.usr,ib:=c.ib,host:=c.host,bz:=c.bz}) ((fO A {u with usr:=c.usr,ib:=c.ib,host:=c.host} B8.o).bz _) ?_;intro x4 d t1;obtain⟨D,k,T⟩:=cZ d (t1.cb j.o f) (R.o.trans t1);clear d t1;refine hK.out _ _ k.o (λhHeld=>?_);clear hK K
 try simp only[Act.put]
 refine ek 27 ?_;refine ek 28 ?_;refine rn 29 Rz rfl r5 (λK hK=>?_);refine fX 3 28 18 rfl w0 b 34 (ai A {u with usr:=c.usr,ib:=c.ib,host:=c.host,bz:=c.bz}) D.o 15 (.int .i64 c.port) rfl rfl (fP B8.o P8) bY.2.1 rfl (ai A (takeA u c)) ((fO A {u with usr:=c.usr,ib:=c.ib,host:=c.host,bz:=c.bz} B8.o).port _) ?_;intro x5 d t1;obtain⟨J,n,T5⟩:=cZ d (t1.cb k.o f) (T.o.trans t1);clear d t1;refine hK.out _ _ n.o (λhHeld=>?_);clear hK K
 try simp only[Act.put]
 refine wpAnyH_done Rz ?_ _;go_wp2_with fail
 go_end0
 exact⟨rfl,J.o,T5.o⟩

theorem dC:(prog.info? 22).map (·.size)=some 1:=Rz
theorem bm{w:H}{base e n:Nat}{v:Z}{xs:List Z}(h:w.ownsRow base e 1 v n xs):v.oneCell'=true:=by
 obtain⟨a,c,rfl⟩:=ex h;rfl
theorem ru(w0:H)(b:Nat)(A n:Z)(u c:Url)(w:H)(i:OB w0 b 34 (ai A u) w)(h8:u.host.six.length=8)(b8:c.host.six.length=8)(hp:Sl w.heap.size w n (c.path.map S))(hl:c.path.length<=1024000000) :
  Calls prog 165 #[.pointer (some ⟨b,0,none⟩),.agg (ai n c)] w λe w'=>e=.returned (.tuple #[])/\∃B,OB w0 b 34 (ai B (fM u c)) w'/\w'.ownsRow w.heap.size 9 1 B c.path.length (Strs c.path)/\Tn b w w':=by
 obtain⟨L,r,N,HP,HL⟩:=ec i h8 (ry n c b8) hp hl;obtain⟨tp,d⟩:=V (fM u c);rw[<-d];unfold fM at d;have UU:=F<|ry A u h8;clear h8 b8 hp hl i;go_enter func165,ntmps165
 go_upto_region 1 with fail
 have X:=CB.new w 34 (ai n c);have U:=(gT w.heap.size w).alloc (ag _) (.cells (ai n c) 34);have k:w.heap.size≠b:=by have:=L.o.lt;omega
 have t:b<w.heap.size:=L.o.lt;obtain⟨w2,z⟩:=V (w.alloc (.cells (ai n c) 34));rw[<-z]at X U⊢;obtain⟨R,pw⟩:=ey (w.heap.size);have HB:=F U;rw[<-pw.o]at X k⊢;have HX:=F X;clear z X U;have T:=HX.o.aE N.o.path;have I2:=F<|L.o.below HB.o;have hq:u.bZ=true\/u.bZ=false:=by cases u.bZ <;>simp
 obtain⟨qv,Tf⟩:=V (u.bZ)
 go_upto_region 2 with(first|(go_at_call 54;refine(fQ c.path n _ ((HP.o.below HB.o).more HB.o.size) HL.o).m ?_;rintro e w3⟨v3,rfl,ho,U⟩;obtain⟨R3,I3,C2,T3⟩:=dT (show w3.ownsRow w.heap.size 9 1 v3 c.path.length (Strs c.path) by have l:=ho;rw[ay]at l;rcases l.2 with h|⟨g,cap,cur,e1,e2,e3⟩;exact⟨l.1,.inl h⟩;exact⟨l.1,.inr ⟨g,cap,cur,e1,am HB.o.size e2,e3⟩⟩) (I2.o.below U) (HX.o.keep U) ((Tn.of_below (b:=b) HB.o).below U);clear ho U)|(refine dX rfl 22 9 7 rfl w0 b 34 (ai A u) I3.o 18 v3 rfl rfl (fP r.o P8) dC (bm R3.o) (ai v3 {u with path:=c.path}) ((fO A u r.o).path _ _) ?_;intro w4 p t1;obtain⟨s,C,y,x⟩:=dT p (t1.cb C2.o k) (T3.o.trans t1) (t1.row R3.o t);clear p t1))
 clear T;have UV:=F<|ry v3 {u with path:=c.path} r.o;have j:=s.o.aE UV.o.bZ;cases f:u.bZ with
 |true =>
  rw[ge f]at d;have M:=F d;replace j:w4.cell? ⟨b,19,none⟩=some (.bool true):=by rw[j,<-f]
  clear d hq Tf f;go_wp2_with fail
  go_end0
  exact⟨rfl,_,(by rw[M.o];exact s.o),x.o,y.o⟩
 |false =>
  rw[gc (by simp[f])]at d;have M:=F d;replace j:w4.cell? ⟨b,19,none⟩=some (.bool false):=by rw[j,<-f]
  clear d hq Tf f
  go_upto_region 3 with fail
  obtain⟨I4,C4,T4,R4⟩:=dT (s.o.below (bG (bg _))) (C.o.keep (bG (bg _))) (y.o.below (bG (bg _))) (own_below x.o (bG (bg _)));clear j;refine wp_region_held_drew (S:=λW=>CB W R 34 (ai n c)) Rz (by first|exact C.o.keep (bG (bg _))|exact J.o|exact D.o) (λhHeld=>?_);refine ek 0 ?_;refine ek 1 ?_;refine ek 2 ?_;refine e_l 3 rfl (λ_ hS=>bK 4 17 rfl R 19 (.bool c.bZ) _ underlying4 rfl rfl (hS.aE N.o.bZ)) ?_
  refine ek 4 ?_;refine e_l 5 rfl (λ_ hS=>bK 9 19 rfl R 20 (S c.q) _ underlying9 rfl rfl (hS.aE N.o.q)) ?_
  refine ek 6 ?_;refine ek 7 ?_;refine rn 8 Rz rfl r5 (λK hK=>?_);refine fX 4 22 18 rfl w0 b 34 (ai v3 {u with path:=c.path}) I4.o 19 (.bool c.bZ) rfl rfl (fP r.o P8) bY.2.2 rfl (ai v3 {u with path:=c.path,bZ:=c.bZ}) ((fO v3 {u with path:=c.path} r.o).bZ _) ?_;intro x5 p t1;obtain⟨I5,D,T5,R5⟩:=dT p (t1.cb C4.o k) (T4.o.trans t1) (t1.row R4.o t);clear p t1;refine hK.out _ _ D.o (λhHeld=>?_);clear hK K
  try simp only[Act.put]
  refine ek 9 ?_;refine ek 10 ?_;refine rn 11 Rz rfl r5 (λK hK=>?_);refine fX 9 24 20 rfl w0 b 34 (ai v3 {u with path:=c.path,bZ:=c.bZ}) I5.o 20 (S c.q) rfl rfl (fP r.o P8) bY.1 rfl (ai v3 {u with path:=c.path,bZ:=c.bZ,q:=c.q}) ((fO v3 {u with path:=c.path,bZ:=c.bZ} r.o).q _) ?_;intro x6 p t1;obtain⟨I6,J,T6,R6⟩:=dT p (t1.cb D.o k) (T5.o.trans t1) (t1.row R5.o t);clear p t1;refine hK.out _ _ J.o (λhHeld=>?_);clear hK K
  try simp only[Act.put]
  refine wpAnyH_done Rz ?_ _;go_wp2_with fail
  go_end0
  exact⟨rfl,_,(by rw[M.o];exact I6.o),R6.o,T6.o⟩

structure Fk (J:Nat->Prop) (w w':H):Prop where
 os:w'.os=w.os
 tape:w'.tape=w.tape
 output:w'.output=w.output
 s:w.heap.size<=w'.heap.size
 k:∀j,j<w.heap.size->¬J j->w'.heap[j]?= w.heap[j]?
section
variable {J K:Nat->Prop} {w w' w2:H}
theorem Fk.refl(J:Nat->Prop)(w:H):Fk J w w:=⟨rfl,rfl,rfl,ag _,λ_ _ _=>rfl⟩
theorem Fk.trans(h:Fk J w w')(k:Fk J w' w2):Fk J w w2:=⟨k.os.trans h.os,k.tape.trans h.tape,k.output.trans h.output,am h.s k.s,λj c d=>(k.k j (aN c h.s) d).trans (h.k j c d)⟩
theorem Fk.more(h:Fk J w w')(e:∀j,J j->K j):Fk K w w':=⟨h.os,h.tape,h.output,h.s,λj d f=>h.k j d λc=>f (e j c)⟩
theorem Fk.of_below(h:r7 w w'):Fk J w w':=⟨h.os,h.tape,h.output,h.size,λj c _=>h.block j c⟩
theorem Fk.below{B:Nat}{w0:H}(h:Fk J w w')(b:Below B w0 w)(d:∀j,J j->B<=j)(f:B<=w.heap.size):Below B w0 w' :=
 b.trans ⟨h.os,h.tape,h.output,h.s,λj c=>h.k j (aN c f) λe=>absurd (d j e) (Nat.not_le_of_lt c)⟩
theorem Fk.cb(h:Fk J w w'){g:Nat}{T:TypeId}{cs:Array Z}(i:CB w g T cs)(c:¬J g):CB w' g T cs:=⟨(h.k g i.lt c).trans i.a⟩
theorem CB.set{b:Nat}{T:TypeId}{cs:Array Z}(i:CB w b T cs)(k:Nat)(v:Z):CB (w.setCell ⟨b,k,none⟩ v) b T (cs.setIfInBounds k v):=by
 rw[setCell_eq_setRow w b k cs T (0,0) v i.a];exact⟨setRow_heap w b _ _ _ _ i.a⟩
theorem Fk.set{b:Nat}{T:TypeId}{cs:Array Z}(i:CB w b T cs)(k:Nat)(v:Z)(U:J b):Fk J w (w.setCell ⟨b,k,none⟩ v):=by
 rw[setCell_eq_setRow w b k cs T (0,0) v i.a];exact⟨rfl,rfl,rfl,by rw[setRow_size];exact ag _,λj _ c=>setRow_other w b j _ (λe=>c (e▸U))⟩
theorem CB.vz{b:Nat}{T:TypeId}{cs:Array Z}(i:CB w b T cs)(k:Nat):w.frozen? ⟨b,k,none⟩=false:=by simp[World.frozen?,i.a]
end
def EJ(o:Option Nat)(s:Bool)(W:H):Prop:=∀b,o=some b->CB W b 4 #[.bool s]
def OJ(o:Option Nat)(j:Nat):Prop:=o=some j
theorem EJ.fr{o:Option Nat}{s:Bool}{J:Nat->Prop}{w w':H}(h:EJ o s w)(f:Fk J w w')(c:∀b,o=some b->¬J b):EJ o s w':=λb e=>f.cb (h b e) (c b e)
structure Bn (g:Nat) (lb:Array Z) (o:Option Nat) (p nx:Bool->UInt8->Bool):Prop where
 eg:∀(args:Array Z) (w:H),(callFunc g args).run prog w=.ok (.enter g args) w
 go:∀(s:Bool) (c:UInt8) (W:H),EJ o s W->Calls prog g (#[.int .u8 (G c)]++lb) W λe w'=>e=.returned (.bool (p s c))/\EJ o (nx s c) w'/\Fk (OJ o) W w'
def nL(p nx:Bool->UInt8->Bool):Bool->O->Nat
 |_,[]=>0
 |s,c::r=>if p s c=true then nL p nx (nx s c) r+1 else 0
theorem Ic(p d:Bool->UInt8->Bool):∀(l:O) (s:Bool),nL p d s l<=l.length
 | [],_=>ag _
 |c::r,s=>by
  rw[nL,cz]
  split
  ·have:=Ic p d r (d s c);omega
  exact aL _
theorem Ue(p c:Bool->UInt8->Bool)(s:Bool){l:O}{j:Nat}(h:j<l.length):nL p c s (l.drop j)=if p s l[j]=true then nL p c (c s l[j]) (l.drop (j+1))+1 else 0:=by
 rw[aC h,nL]
theorem NN(p c:Bool->UInt8->Bool)(s:Bool){l:O}{j:Nat}(h:l.length<=j):nL p c s (l.drop j)=0:=by
 rw[bE h];rfl
def SkJ(A':Nat)(o:Option Nat)(j:Nat):Prop:=j=A'\/o=some j
theorem rp{g:Nat}{lb:Array Z}{o:Option Nat}{p u:Bool->UInt8->Bool}(hk:Bn g lb o p u)(l:O)(k n B:Nat)(L:Bool)(w:H)(hl:l.length<=1024000000)(hkl:k<=l.length)
  (cA:CB w n 3 #[.int .i64 k]) (cB:CB w B 9 #[.string (E l)]) (hi:EJ o L w) (hoA:o≠some n) (hoB:o≠some B) (Pz:B≠n) :
  Calls prog 86 #[.func (.func g) #[] lb,.pointer (some ⟨n,0,none⟩),.pointer (some ⟨B,0,none⟩)] w λe w' =>
   e=.returned (S ((l.drop k).take (nL p u L (l.drop k))))/\CB w' n 3 #[.int .i64 ((k+nL p u L (l.drop k):Nat):Int)]/\CB w' B 9 #[.string (E l)]/\Fk (SkJ n o) w w':=by
 have hM:=Ic p u (l.drop k) L;rw[aj]at hM;obtain⟨M,C⟩:=V (nL p u L (l.drop k));rw[<-C]at hM⊢;obtain⟨t,ht⟩:=V (E l);have hsz:t.size=l.length:=by rw[ht,aF]
 have hby:∀j (hj:j<t.size) (hj2:j<l.length),((t[j]'hj).toNat:Int)=G l[j]:=λj hj hj2=>cy ht hj hj2;have hex:t.extract k (k+M)=E ((l.drop k).take M):=by rw[ht,cd];congr 2;omega
 rw[<-ht]at cB⊢;clear ht;obtain⟨N,hN⟩:=V (t.size);have P6:t.size=N:=hN.symm;have oP:N<=1024000000:=M0;have hkN:k<=N:=M0;have hMN:k+M<=N:=M0;have MU:=F hex;clear hex;have eM:=F hsz;clear hsz hl hkl hN hM;have iV:=F hby;clear hby;have HME:=F C;clear C;have HK:=F hk;have eg:=hk.eg;clear hk;have HI:=F hi;clear hi;have Kc:=F hoA;clear hoA;have TE:=F hoB;clear hoB;have WQ:=F cA;have WB:=F cB;have c1:=cA.aE (j:=0) (v:=.int .i64 k) rfl;have c2:=cB.aE (j:=0) (v:=.string t) rfl;clear cA cB;go_enter func86,ntmps86;go_wp2_with fail;clear c1 c2
 go_loopg [] (N+1) (λgf wr=>∃(j:Nat) (s:Bool),k<=j/\j<=N/\N-j<gf/\Hid (M=j-k+nL p u s (l.drop j))/\Hid (CB wr n 3 #[.int .i64 j])/\Hid (CB wr B 9 #[.string t])/\Hid (EJ o s wr)/\Hid (Fk (SkJ n o) w wr))
 exact⟨k,L,ag _,hkN,M0,by rw[jy,bM];exact HME.o,WQ.o,WB.o,HI.o,Fk.refl _ _⟩
 obtain⟨j,s,hkj,hjN,hf,hm,hA,hB,hI,hF⟩:=hrel;obtain⟨g',rfl⟩:∃g',gk=g'+1:=⟨gk-1,M0⟩;have c1:=hA.o.aE (j:=0) (v:=.int .i64 j) rfl;have c2:=hB.o.aE (j:=0) (v:=.string t) rfl;by_cases hlt:j<N
 ·have hju:j<t.size:=by omega
  have hjl:j<l.length:=by have:=eM.o;omega
  have X:=iV.o j hju hjl;have r:=Ue p u s hjl;have D:=HK.o.go s l[j] wr hI.o;have Lf:(j:Int)<(N:Int):=M0;generalize l[j]=c at X r D;generalize G c=X' at X D;cases hp:p s c with
  |true =>
   rw[hp]at D;rw[ge hp]at r;have d:M=j+1-k+nL p u (u s c) (l.drop (j+1)):=by have:=hm.o;omega
   have W:=F d;clear r hm d hp;obtain⟨rL,z,R⟩:=cZ (show ¬OJ o n from Kc.o) (show ¬OJ o B from TE.o) Pz
   go_wp2_with(go_at_fn g;refine D.m ?_;rintro e w2⟨rfl,q,i⟩;obtain⟨T,Hs,f,y⟩:=dT q i (i.cb hA.o rL.o) (i.cb hB.o z.o);have c3:=f.o.aE (j:=0) (v:=.int .i64 j) rfl;have f3:=f.o.vz 0;clear q i)
   go_roundg g'
   ·have EQ:¬SkJ n o B:=λh=>h.elim R.o TE.o;exact⟨j+1,u s c,M0,M0,M0,W.o,F (by simpa using f.o.set 0 (.int .i64 ((j+1:Nat):Int))),(Fk.set (J:=λx=>x=n) f.o 0 _ rfl).cb y.o R.o,(T.o.fr (Fk.set (J:=λx=>x=n) f.o 0 _ rfl) (λb e U=>Kc.o (U▸e))),(hF.o.trans (Hs.o.more λx X=>.inr X)).trans (Fk.set f.o 0 _ (.inl rfl))⟩
   ·omega
  |false =>
   rw[hp]at D;rw[gc (by rw[hp];simp)]at r;have d:k+M=j:=by have:=hm.o;omega
   clear r hm hp;obtain⟨rL,z,W,Nv⟩:=dT (show ¬OJ o n from Kc.o) (show ¬OJ o B from TE.o) d (show t.extract k j=E ((l.drop k).take M) by rw[<-d];exact MU.o);clear d;have n9:=Nv.o
   go_wp2_with(go_at_fn g;refine D.m ?_;rintro e w2⟨rfl,q,i⟩;obtain⟨T,Hs,f,y⟩:=dT q i (i.cb hA.o rL.o) (i.cb hB.o z.o);have c3:=f.o.aE (j:=0) (v:=.int .i64 j) rfl;have c4:=y.o.aE (j:=0) (v:=.string t) rfl;clear q i)
   go_ret;exact⟨r5,by rw[W.o];exact f.o,y.o,hF.o.trans (Hs.o.more λx X=>.inr X)⟩
 obtain rfl:j=N:=M0
 have d:k+M=j:=by
  have:=hm.o;rw[NN p u s (by have:=eM.o;omega)]at this;omega
 have n9:t.extract k j=E ((l.drop k).take M):=by rw[<-d];exact MU.o
 have W:=F d;clear hm d;go_wp2_with fail;go_ret;exact⟨r5,by rw[W.o];exact hA.o,hB.o,hF.o⟩
