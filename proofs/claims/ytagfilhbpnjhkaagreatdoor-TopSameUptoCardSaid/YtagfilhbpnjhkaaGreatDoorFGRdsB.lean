import Derived.Test.YtagfilhbpnjhkaaGreatDoorFGFloB
set_option maxRecDepth 10000
set_option maxHeartbeats 0
namespace Go.Proofs.Q
open Tryz Go.RowKit
abbrev I0:eu:=⟨false,U0,[]⟩
abbrev bC(A wv:Z)(i:eu):Array Z:=(bN A wv i).toArray
theorem Lm:(prog.info? 48).map (λi=>(i.zero,i.size,i.bytes))=some (some (.agg (bC aI aI I0)),25,240):=Rz
theorem mG:(prog.info? 48).map (·.size)=some 25:=Rz
theorem lL{A wv:Z}{i:eu}(h:i.url.host.six.length=8):(bN A wv i).length=25:=by simp[bN,oF h]
theorem mF{A wv:Z}{i:eu}(h:i.url.host.six.length=8):(bC A wv i).size=25:=by rw[fZ,lL h]
theorem Qh{A wv:Z}{i:eu}(hp:A.oneCell'=true)(hw:wv.oneCell'=true):∀v∈bN A wv i,v.oneCell'=true:=by
 intro v a;rcases aK.mp a with rfl|a
 ·rfl
 rcases bO.mp a with a|a
 ·exact xe hp v a
 obtain rfl:v=wv:=by simpa using a
 exact hw
structure mZ (W:H) (base:Nat) (p:(Z×Z)×eu):Prop where
 six:p.2.url.host.six.length=8
 path:W.ownsRow base 9 1 p.1.1 p.2.url.path.length (Strs p.2.url.path)
 words:W.ownsRow base 9 1 p.1.2 p.2.words.length (Strs p.2.words)
abbrev ipc(p:(Z×Z)×eu):List Z:=bN p.1.1 p.1.2 p.2
def fa(W:H)(base:Nat)(v:Z)(l:List eu):Prop:=∃ps:List ((Z×Z)×eu),ps.map (·.2)=l/\W.ownsRow base 48 25 v ps.length (ps.flatMap ipc)/\∀p∈ps,mZ W base p
theorem il{w:H}{base base' e s n:Nat}{v:Z}{xs:List Z}(h:w.ownsRow base e s v n xs)(U:base'<=base):w.ownsRow base' e s v n xs:=by
 refine⟨h.1,?_⟩;rcases h.2 with c|⟨g,cap,cur,a,d,f⟩
 ·exact .inl c
 exact .inr ⟨g,cap,cur,a,am U d,f⟩
theorem mZ.below{W a:H}{base:Nat}{p:(Z×Z)×eu}(h:mZ W base p)(U:r7 W a):mZ a base p:=⟨h.six,own_below' h.path U,own_below' h.words U⟩
theorem mZ.base{W:H}{base base':Nat}{p:(Z×Z)×eu}(h:mZ W base p)(U:base'<=base):mZ W base' p:=⟨h.six,il h.path U,il h.words U⟩
theorem fa.nil(W:H)(base:Nat):fa W base (.slice none 0 0) []:=⟨[],rfl,iZ _ _ _ _,λp hp=>by cases hp⟩
theorem fa.below{W a:H}{base:Nat}{v:Z}{l:List eu}(c:fa W base v l)(h:r7 W a):fa a base v l:=by
 obtain⟨e,Y,I,d⟩:=c;exact⟨e,Y,own_below I h,λp hp=>(d p hp).below h⟩
theorem fa.base{W:H}{base base':Nat}{v:Z}{l:List eu}(c:fa W base v l)(U:base'<=base):fa W base' v l:=by
 obtain⟨d,Y,I,a⟩:=c;exact⟨d,Y,il I U,λp hp=>(a p hp).base U⟩
theorem fa.len{W:H}{base:Nat}{v:Z}{l:List eu}(c:fa W base v l):∃a d,v=.slice a l.length d:=by
 obtain⟨ps,rfl,I,_⟩:=c;rw[ay];rcases I.2 with⟨rfl,e⟩|⟨g,cap,cur,rfl,_⟩
 ·exact⟨none,0,by rw[e]⟩
 exact⟨_,_,rfl⟩
theorem fa.items{W:H}{base:Nat}{v:Z}{l:List eu}(c:fa W base v l)(m:∀i∈l,gG i.url):Items W.heap.size W v l:=by
 obtain⟨a,rfl,I,n⟩:=c;rcases I.2 with⟨rfl,q⟩|⟨g,cap,cur,rfl,hg,hh,h,hcm,hsz,htk⟩
 ·have:a=[]:=az q
  subst this;exact⟨0,ag _,.inl ⟨rfl,none,rfl⟩⟩
 refine⟨cap,by rw[ay];exact h,.inr ⟨g,0,(bw.1 hh).1,by rw[ay],λk o=>?_⟩⟩;have d:k<a.length:=by simpa using o
 have hp:=n a[k] (be d);refine⟨a[k].1.1,a[k].1.2,λj x f=>?_,?_,?_,?_⟩
 ·rw[cU]at f
  have e:j<25:=by
   have:=(bh.1 f).1;rw[lL hp.six]at this;exact this
  have r:=z8 ipc 25 a (λp hp=>lL (n p hp).six) k j d e;have:=I.cells (g:=g) rfl (k*25+j) x (r.trans f);rw[addr_add,<-Nat.add_assoc]at this;exact this
 ·exact m _ (be o)
 ·rw[cU]
  exact Sl.g9 (sB hp.path)
 rw[cU];exact Sl.g9 (sB hp.words)
section
variable {ops:Array Oper} {rest:List Oper} {o:Oper} {a:Act} {w:H} {Q:Exit->Act->H->Prop}
theorem a3m(A wv:Z)(i:eu)(h:i.url.host.six.length=8)(w:H):(Instr.buildSlice 43 1 #[(0,.agg (bC A wv i))]).run prog w=.ok (.slice (some ⟨w.heap.size,0,none⟩) 1 1) (w.alloc (.cells (bC A wv i) 48)):=by
 obtain⟨rt,⟨aJ,usr,ib,⟨hk,hn,hf,six⟩,a1,a2,a3,a4,a5,a6,a7,a8,a9⟩,ws⟩:=i;simp only at h;obtain⟨a,b,c,d,e,f,g,i,rfl⟩:=eight h
 kernel_rfl
theorem qE(d:o.guard=none)(y:Operand)(f:o.op=.buildSlice 43 1 #[(0,y)])(A wv:Z)(i:eu)(c:i.url.host.six.length=8)(hy:a.eval y=.agg (bC A wv i))
  (h:wpList prog ops Q rest (a.put o.dst (.slice (some ⟨w.heap.size,0,none⟩) 1 1)) (w.alloc (.cells (bC A wv i) 48))):wpList prog ops Q (o::rest) a w:=by
 refine wpList_plain d λK hK=>?_;unfold Oper.wp execOp;have e:(#[(0,y)]:Array (Nat×Operand)).map (λ(i,x)=>(i,a.eval x))=#[(0,.agg (bC A wv i))]:=by simp[hy]
 simp only[f,h2,io,h1,e,a3m A wv i c];exact hK _ _ h
theorem fa.one(w:H){base:Nat}{A wv:Z}{i:eu}(hp:mZ w base ((A,wv),i))(U:base<=w.heap.size):fa (w.alloc (.cells (bC A wv i) 48)) base (.slice (some ⟨w.heap.size,0,none⟩) 1 1) [i]:=by
 have d:Below w.heap.size w (w.alloc (.cells (bC A wv i) 48)):=(gT _ _).alloc (ag _) _;refine⟨[((A,wv),i)],rfl,?_,?_⟩
 ·have c:[((A,wv),i)].flatMap ipc=bN A wv i:=by simp
  rw[c];refine⟨by simp[lL hp.six],.inr ⟨w.heap.size,1,bC A wv i,rfl,U,jp w _,ag _,P8,by rw[mF hp.six],by show(bN A wv i).take (1*25)=_;exact aP (by rw[lL hp.six];exact ag _)⟩⟩
 intro p h;obtain rfl:p=((A,wv),i):=by simpa using h
 exact hp.below d
theorem b89(z:o.guard=none)(s x:Operand)(T:o.op=.call {callee:=.builtin .append,args:=#[s,x],argTypes:=#[43,43]})
  (base:Nat) {v A wv:Z} {l:List eu} {c:eu} (hs:a.eval s=v) (hown:fa w base v l) (hw:mZ w base ((A,wv),c)) (X:a.eval x=.slice (some ⟨w.heap.size,0,none⟩) 1 1)
  (t:l.length+1<=1000000000) (hbase:base<=w.heap.size)
  (h:∀q n,fa n base q (l++[c])->Below base w n->wpList prog ops Q rest (a.put o.dst q) n) :
  wpList prog ops Q (o::rest) a (w.alloc (.cells (bC A wv c) 48)):=by
 obtain⟨i,hi,hz,D,J⟩:=info_parts Lm;obtain⟨M,rfl,I,r⟩:=hown;rw[ay]at t;have d:Below w.heap.size w (w.alloc (.cells (bC A wv c) 48)):=(gT _ _).alloc (ag _) _;refine wpList_append_own_at _ z s x _ T base 48 i _ 25 240 underlying43 hi hz D J r5 P8 v M.length _ hs (I.alloc _) ⟨w.heap.size,0,none⟩ 1 1 (bN A wv c) X (by rw[lL hw.six]) ?_ (Qh (bm hw.path) (bm hw.words)) (by unfold maxLen;omega) M0 (am hbase d.size) ?_
 ·intro j u P
  rw[addr_add,bM];have B:(bC A wv c)[j]?= some u:=by rw[cf];exact P
  rw[hx];exact B
 intro q n C L _ _
 have hkeep:∀{u:Z} {ws:List O},w.ownsRow base 9 1 u ws.length (Strs ws)->n.ownsRow base 9 1 u ws.length (Strs ws):=by
  intro u ws hu;have f:=own_below' hu d;refine⟨f.1,?_⟩;rcases f.2 with N|⟨g,cap,cur,K,y,hh,W⟩
  ·exact .inl N
  refine .inr ⟨g,cap,cur,K,y,(L.block g (bw.1 hh).1 λe=>?_).trans hh,W⟩;exact RN f (I.alloc (.cells (bC A wv c) 48)) P8 g (by rw[K];rfl) e.symm
 refine h q n ⟨M++[((A,wv),c)],Oc,?_,?_⟩ ?_
 ·rw[ae,dL]
  simpa using C
 ·intro p hp
  rcases bO.mp hp with hp|hp
  ·exact⟨(r p hp).six,hkeep (r p hp).path,hkeep (r p hp).words⟩
  obtain rfl:p=((A,wv),c):=by simpa using hp
  exact⟨hw.six,hkeep hw.path,hkeep hw.words⟩
 exact((d.m hbase)).grown L (am hbase d.size) (λk R=>(I.lt k R).1)
end

theorem Om{wv:Z}{c:dk}(h:wv.oneCell'=true):(bA wv c).all (·.oneCell')=true:=all_oneCell_toArray (Ir h)
def SpP(l:List dk)(w:H):Ending->H->Prop:=λe w'=>∃v,e=.returned v/\km w' w.heap.size v l/\r7 w w'
theorem zt:∀(k:Nat) (s:O),(jQ k s).1.length+(jQ k s).2.length<=s.length/\∀x∈(jQ k s).1,x.length<=s.length
 |0,s=>⟨by show 0+s.length<=_;omega,λx h=>by cases h⟩
 |k+1,s=>by
  have hd:=gJ mw s;rw[jQ]
  split
  ·exact⟨by show 0+(s.dropWhile mw).length<=_;omega,λx h=>by cases h⟩
  next hz =>
  have hw:=lY (s.dropWhile mw) false;have c:=zt k ((s.dropWhile mw).drop (gN false (s.dropWhile mw)));rw[aj]at c;refine⟨?_,?_⟩
  ·simp only[cz]
   have:=c.1;omega
  intro x X;rcases aK.mp X with rfl|X
  ·rw[aD];omega
  have:=c.2 x X;omega
theorem JP{s:O}{ws:List O}{rest:O}(h:j7 s=(ws,rest)):ws.length<=s.length/\∀x∈ws,x.length<=s.length:=by
 have:=zt s.length s;unfold j7 at h;rw[h]at this;exact⟨by have:=this.1;simp only at this;omega,this.2⟩
theorem JL(p:UInt8->Bool):∀l:O,l.take (l.takeWhile p).length=l.takeWhile p
 | []=>rfl
 |c::r=>by
  cases h:p c with
  |true=>rw[bJ h,cz,dM,JL p r]
  |false=>rw[bI (by rw[h];simp)];rfl
theorem Cd:jM []=some C0:=rfl
theorem AV(l:O)(w:H)(hl:l.length<=1024000000)(hE:Env w):Calls prog 53 #[.string (E l)] w (SpP (jF l) w):=by
 obtain⟨N,hN⟩:=V (l.length);have HN:=F hN;have HE:=F hE;obtain⟨t,HT⟩:=ey (E l);have P6:t.size=N:=by rw[HT.o,aF,hN]
 rw[<-hN]at hl;rw[<-HT.o];obtain⟨R,HR⟩:=ey (jF l);rw[<-HR.o];clear hN hE;go_enter func53,ntmps53
 go_upto_region 2 with fail
 have CB1:=F<|CB.new w 9 #[.string t];have b1:=(gT w.heap.size w).alloc (ag _) (.cells #[.string t] 9);obtain⟨B,T,w1,hw1⟩:=ac (w.heap.size) (w.alloc (.cells #[.string t] 9));rw[<-hw1]at CB1 b1⊢;rw[<-T]at CB1⊢;clear hw1
 go_upto_region 3 with fail
 have CA2:=F<|CB.new w1 3 #[.int .i64 0];have G:=(gT w1.heap.size w1).alloc (ag _) (.cells #[.int .i64 0] 3);obtain⟨n,hA,w2,hw2⟩:=ac (w1.heap.size) (w1.alloc (.cells #[.int .i64 0] 3));rw[<-hw2]at CA2 G⊢;rw[<-hA]at CA2⊢;clear hw2;have CB2:=F<|CB1.o.keep G;have Eh:=F<|b1.trans (G.m b1.size)
 have z:=fo (n<w2.heap.size/\B<w2.heap.size/\w.heap.size<=n/\B≠n) (by
  have Y:=CA2.o.lt;have I:=CB2.o.lt;have h3:=CB1.o.lt;have h4:=b1.size;omega)
 clear hA T b1 G CB1;go_wp2_with fail
 go_loopg [3] (N+1) (λgf lv wr=>∃(j:Nat) (acc:List dk),j<=N/\N-j<gf/\acc.length<=j/\Hid (R=acc++jF (l.drop j))/\Hid (km wr w2.heap.size lv acc)/\Hid (CB wr n 3 #[.int .i64 (j:Int)])/\Hid (CB wr B 9 #[.string t])/\Hid (r7 w wr)/\Hid (w2.heap.size<=wr.heap.size))
 exact⟨0,[],aL _,M0,ag _,by rw[HR.o];rfl,km.nil _ _,CA2.o,CB2.o,Eh.o,ag _⟩
 obtain⟨j,acc,hjN,hf,hal,HW,HC,HA,HB,lZ,eM⟩:=hrel;obtain⟨g',rfl⟩:∃g',gk=g'+1:=⟨gk-1,M0⟩;have hll:l.length<=1024000000:=by rw[<-HN.o];exact hl
 have hjl:j<=l.length:=by rw[<-HN.o];exact hjN
 have hBb:∀W,CB W B 9 #[.string t]->CB W B 9 #[.string (E l)]:=λW h=>by rw[<-HT.o];exact h
 have hBt:∀W,CB W B 9 #[.string (E l)]->CB W B 9 #[.string t]:=λW h=>by rw[HT.o];exact h
 have hs1:=rp Y7 l j n B false wr hll hjl HA.o (hBb _ HB.o) (λb h=>by cases h) Oc Oc z.o.2.2.2;rw[BR]at hs1;obtain⟨q,hj1⟩:=V (j+((l.drop j).takeWhile fS).length)
 have U6:q<=l.length:=by
  have:=sO fS (l.drop j);rw[aj]at this;omega
 have hd1:l.drop q=(l.drop j).dropWhile fS:=by rw[hj1,<-List.drop_drop,uF]
 rw[<-hj1]at hs1;have d:=a0U (l.drop j);rw[<-hd1]at d;have HS1:=F hs1;have hjj:j<=q:=M0;clear hs1 hj1;go_wp2_with fail;refine HS1.o.m ?_;rintro e w3⟨rfl,hA,T,k⟩;obtain⟨Nt,HB3,JX,HC3,a2B⟩:=ec hA (hBt _ T) (k.below lZ.o (λi h=>h.elim (λe=>by have:=z.o;omega) (λe=>by cases e)) lZ.o.size) (HC.o.fk k (λg Y _ I=>I.elim (λe=>by have:=z.o;omega) (λe=>by cases e))) (am eM.o k.s);clear hA T k HS1;have c1:=Nt.o.aE (j:=0) (v:=.int .i64 (q:Int)) rfl;have c2:=HB3.o.aE (j:=0) (v:=.string t) rfl;by_cases hend:q=N
 ·have he:((q:Int)==(N:Int))=true:=by rw[hend];simp
  have uI:=F (show R=acc by
   rw[HW.o,d,ge (bE (by rw[<-HN.o,hend];exact ag _))];simp)
  clear d hd1 hBb hBt hend;go_wp2_with fail;go_ret;exact⟨_,rfl,by rw[uI.o];exact HC3.o.base Eh.o.size,JX.o⟩
 have he:((q:Int)==(N:Int))=false:=by rw[beq_eq_false_iff_ne];omega
 have b4B:q<N:=by have:=HN.o;omega
 have hne:l.drop q ≠ []:=λh=>by
  have:=congrArg List.length h;rw[aj,aO]at this;have:=HN.o;omega
 rw[gc hne]at d;obtain⟨x0,r0,hx0,hx1⟩:=dw_head (p:=fS) (s:=l.drop j) (by rw[<-hd1];exact hne);rw[<-hd1]at hx0;obtain⟨u,hu⟩:=V ((l.drop q).takeWhile fU);have hu1:1<=u.length:=by rw[hu,hx0,bJ (Oo hx1),cz];omega
 have Nf:u.length<=l.length-q:=by
  have:=sO fU (l.drop q);rw[aj]at this;rw[hu];exact this
 obtain⟨P,hj2⟩:=V (q+u.length);have a9E:P<=l.length:=M0;have hd2:l.drop P=(l.drop q).dropWhile fU:=by rw[hj2,hu,<-List.drop_drop,uF]
 have hstp:jt (l.drop q)=if nQ u=true then⟨gM u,[],l.drop P⟩else⟨u,(j7 (l.drop P)).1,(j7 (l.drop P)).2.drop 1⟩:=by unfold jt;rw[<-hu,<-hd2]
 rw[hstp]at d
 have HS2:=F (show Calls prog 86 #[.func (.func 88) #[] #[],.pointer (some ⟨n,0,none⟩),.pointer (some ⟨B,0,none⟩)] w3 λe w' =>
   e=.returned (S u)/\CB w' n 3 #[.int .i64 (P:Int)]/\CB w' B 9 #[.string (E l)]/\Fk (SkJ n none) w3 w' from by
  have h:=rp Y8 l q n B false w3 hll U6 Nt.o (hBb _ HB3.o) (λb h=>by cases h) Oc Oc z.o.2.2.2;rw[BR,<-hu,<-hj2]at h;have e1:(l.drop q).take u.length=u:=by rw[hu];exact JL fU (l.drop q)
  rw[e1]at h;exact h)
 have Z6:u.length<=1024000000:=M0;have C:=λW=>ZX u W Z6;have htr:=λW=>a00 u W Z6;have Hr:=F<|λW (a:CB W n 3 #[.int .i64 (P:Int)]) (b:CB W B 9 #[.string (E l)])=>a09 l P n B W hll a9E a b z.o.2.2.2;obtain⟨tu,htu⟩:=V (E u);have HTU:=F (show Value.string tu=S u by rw[htu]);rw[show S u=Value.string tu by rw[htu]]at HS2;rw[<-htu]at C htr;have TK:=F htr;have HJ:=F (show j<P/\P<=N by have:=HN.o;omega);clear htr hstp hd2 Nf hx0 hx1 hu hne hd1 htu hj2 hu1 Z6 hend;go_wp2_with fail;refine HS2.o.m ?_;rintro e w4⟨rfl,hA,T,k⟩;obtain⟨M2,a69,eI,Tq,JY,TI⟩:=ee hA T (hBt _ T) (k.below JX.o (λi h=>h.elim (λe=>by have:=z.o;omega) (λe=>by cases e)) JX.o.size) (HC3.o.fk k (λg Y _ I=>I.elim (λe=>by have:=z.o;omega) (λe=>by cases e))) (am a2B.o k.s);clear hA T k HS2 c1 c2 HC HA HB lZ eM Nt HB3 JX HC3 a2B;cases K:nQ u with
 |true =>
  rw[ge K]at d;rw[K]at C;have YE:=F C
  have Bx:=F (show R=(acc++[{C0 with url:=gM u}])++jF (l.drop P) by
   rw[HW.o,d];unfold tU;simp only[Cd];simp)
  obtain⟨tx,htx⟩:=V (E (gM u));have YJ:=F (show Value.string tx=S (gM u) by rw[htx]);rw[show S (gM u)=Value.string tx by rw[htx]]at TK;clear C d K htx HW
  go_wp2_with(first|(go_at_call 84;refine(YE.o _).e ?_)|(go_at_call 89;refine(TK.o _).k λw5 gD=>?_))
  have f:=qJ [] aI w5 Sl.nil Oc (λx h=>by cases h) ((HE.o.below Tq.o).below gD.o);rw[Cd]at f;obtain⟨c,hc⟩:=V (C0);rw[<-hc]at f Bx;have Tv:=fo (Calls prog 91 #[aI] w5 λe w'=>∃wv,e=.returned (.tuple #[.agg (bA wv c),.bool true])/\w'.ownsRow w5.heap.size 9 1 wv c.words.length (Strs c.words)/\r7 w5 w') f;clear f hc;refine Tv.o.m ?_;rintro e w6⟨wv,rfl,ho,U⟩;have HD6:=F<|gD.o.trans (U.m gD.o.size);have Bu:=F<|ea ho (am TI.o gD.o.size);clear ho U;obtain⟨HA6,j8,Bp,Yt,EH⟩:=ec (M2.o.keep HD6.o) (eI.o.keep HD6.o) (dw Tq.o HD6.o) (JY.o.below HD6.o) (am TI.o HD6.o.size);have hj9:=HJ.o;have ZH:acc.length+1<=1099511627776:=M0
  go_wp2_with(first|(refine aM rfl 101 rfl _ _ (Kh _) ?_)|(refine jG rfl 101 8 35 rfl (bA wv c) (bA aI C0) nP rfl (Om (bm Bu.o)) rfl rfl rfl ?_;intro w7 i7 U;have I7:=fo (OB w6 w6.heap.size 101 (bA wv c) w7) ⟨i7.a,ag _,U⟩;clear i7 U)|(refine dX rfl 9 39 38 rfl w6 w6.heap.size 101 (bA wv c) I7.o 0 (.string tx) rfl rfl (by rw[b7L];omega) Rz rfl (bA wv {c with url:=(gM u)}) (by rw[YJ.o];rfl) ?_;intro w8 i8 _;obtain⟨I8,HC8,HO8,LE8⟩:=dT i8 (Yt.o.below i8.bL) (own_below' Bu.o i8.bL) (am EH.o i8.bL.size);clear i8)|(refine Au r5 8 rfl w6.heap.size wv {c with url:=(gM u)} ⟨I8.o.a⟩ rfl ?_)|(refine Iq rfl 41 rfl wv {c with url:=(gM u)} rfl ?_)|(at_builtin;(refine b88 rfl 40 42 rfl w2.heap.size rfl HC8.o HO8.o rfl ZH LE8.o ?_);intro v9 w9 hc9 tr;have HC9:=F hc9;have jo:=F tr;clear hc9 tr))
  go_roundg g'
  ·have r:=z.o;have hsz:=EH.o;have D:=I8.o.bL;exact⟨P,acc++[({c with url:=(gM u)}:dk)],M0,M0,by simp;omega,Bx.o,HC9.o,⟨(jo.o.block n r.1).trans ((D.block n M0).trans HA6.o.a)⟩,⟨(jo.o.block B r.2.1).trans ((D.block B M0).trans j8.o.a)⟩,(Bp.o.trans (D.m Bp.o.size)).trans (jo.o.m Eh.o.size),am LE8.o jo.o.size⟩
  ·omega
 |false =>
  rw[gc (by rw[K];simp)]at d;rw[K]at C;have YE:=F C;obtain⟨ws,rest,hwd⟩:∃a b,j7 (l.drop P)=(a,b):=⟨_,_,rfl⟩;rw[hwd]at d Hr;have hwl:=JP hwd;clear C K
  go_wp2_with(go_at_call 84;refine(YE.o _).e ?_)
  refine(Hr.o _ M2.o a69.o).m ?_;rintro e w5⟨v5,k',rfl,hk1,hk2,M,ho5,hA,T,k⟩;obtain⟨Tm,gD,Ts,HC5,YG,xn,HWL⟩:=ep hA (hBt _ T) (k.below Tq.o (λi h=>by have:=z.o;omega) Tq.o.size) (JY.o.fk k (λg Y _ I=>by have:=z.o;omega)) (am TI.o k.s) ho5 (show ws.length<=1024000000/\∀x∈ws,x.length<=1024000000 from⟨by have:=hwl.1;rw[aj]at this;omega,λx X=>by have:=hwl.2 x X;rw[aj]at this;omega⟩);clear hA T k ho5 Hr hwl;have c1:=Tm.o.aE (j:=0) (v:=.int .i64 (k':Int)) rfl;have c2:=gD.o.aE (j:=0) (v:=.string t) rfl;have f1:=Tm.o.vz 0
  change l.drop k'=rest at M
  by_cases hkN:k' < N
  case' pos =>
   have r:(k':Int)<(N:Int):=M0;obtain⟨y,L⟩:=V (k'+1);have hw3:IntKind.i64.wrap ((k':Int)+1)=(y:Int):=by rw[gS _ M0];omega
   have HR3:=F (show l.drop y=rest.drop 1 by rw[<-M,qg,L]);have HJ3:=F (show j<y/\y<=N by have:=HJ.o;omega);clear M L;go_wp2_with fail;have k:=Fk.set (J:=λx=>x=n) Tm.o 0 (.int .i64 (y:Int)) rfl;have hA:=Tm.o.set 0 (.int .i64 (y:Int));obtain⟨Yd,hw5⟩:=V (w5.setCell ⟨n,0,none⟩ (.int .i64 (y:Int)));rw[<-hw5]at k hA⊢;obtain⟨Tp,Yn,Ho,Ys,Hx,a2o⟩:=ee (show CB Yd n 3 #[.int .i64 (y:Int)]from hA) (k.cb gD.o z.o.2.2.2) (k.below Ts.o (λi h=>by have:=z.o;omega) Ts.o.size) (HC5.o.fk k (λg Y _ I=>by have:=z.o;omega)) (am YG.o k.s) (k.row xn.o (λg Y _ _ I=>by have:=z.o;have:=TI.o;omega));clear k hA hw5 c1 c2 f1
  case' neg =>
   have r:¬(k':Int)<(N:Int):=M0;obtain⟨y,L⟩:=V (k')
   have HR3:=F (show l.drop y=rest.drop 1 by
    have e1:rest=[]:=by rw[<-M];exact bE (by have:=HN.o;omega)
    rw[L,M,e1];rfl)
   have HJ3:=F (show j<y/\y<=N by have:=HJ.o;have:=HN.o;omega);have Tp:=F (show CB w5 n 3 #[.int .i64 (y:Int)] by rw[L];exact Tm.o);clear M L;go_wp2_with fail;obtain⟨Yd,hw5⟩:=V (w5);rw[<-hw5]at Tp gD Ts HC5 YG xn⊢;have Yn:=gD;have Ho:=Ts;have Ys:=HC5;have Hx:=YG;have a2o:=xn;clear hw5 c1 c2 f1
  all_goals
   have f:=qJ ws v5 Yd (Sl.g9 (sB a2o.o)) HWL.o.1 HWL.o.2 (HE.o.below Ho.o);cases hP:jM ws with
   |none =>
    rw[hP]at f
    have Bx:=F (show R=acc++jF (l.drop y) by
     rw[HW.o,d];unfold tU;simp only[hP];rw[HR3.o])
    have Tv:=fo (bF prog 91 #[v5] Yd (.tuple #[.agg (bA aI C0),.bool false])) f;clear f hP d;refine Tv.o.k λw6 U=>?_;obtain⟨HA6,j8,Bp,Yt,EH⟩:=ec (Tp.o.keep U.o) (Yn.o.keep U.o) (dw Ho.o U.o) (Ys.o.below U.o) (am Hx.o U.o.size);clear U;have hj9:=HJ3.o
    go_wp2_with(first|(refine aM rfl 101 rfl _ _ (Kh _) ?_)|(refine jG rfl 101 8 35 rfl (bA aI C0) (bA aI C0) nP rfl (Om rfl) rfl rfl rfl ?_;intro w7 i7 U;have I7:=F U;clear i7 U))
    go_roundg g'
    ·have r:=z.o;have hsz:=EH.o;have D:=I7.o;exact⟨y,acc,M0,M0,M0,Bx.o,Yt.o.below D,⟨(D.block n M0).trans HA6.o.a⟩,⟨(D.block B M0).trans j8.o.a⟩,Bp.o.trans (D.m Bp.o.size),am hsz D.size⟩
    ·omega
   |some c =>
    rw[hP]at f
    have Bx:=F (show R=(acc++[{c with url:=u}])++jF (l.drop y) by
     rw[HW.o,d];unfold tU;simp only[hP];rw[HR3.o];simp)
    have Tv:=fo (Calls prog 91 #[v5] Yd λe w'=>∃wv,e=.returned (.tuple #[.agg (bA wv c),.bool true])/\w'.ownsRow Yd.heap.size 9 1 wv c.words.length (Strs c.words)/\r7 Yd w') f;clear f hP d;refine Tv.o.m ?_;rintro e w6⟨wv,rfl,ho,U⟩;obtain⟨HA6,j8,Bp,Yt,EH,Bu⟩:=ee (Tp.o.keep U) (Yn.o.keep U) (dw Ho.o U) (Ys.o.below U) (am Hx.o U.size) (ea ho Hx.o);clear U ho;have hj9:=HJ3.o;have ZH:acc.length+1<=1099511627776:=M0
    go_wp2_with(first|(refine aM rfl 101 rfl _ _ (Kh _) ?_)|(refine jG rfl 101 8 35 rfl (bA wv c) (bA aI C0) nP rfl (Om (bm Bu.o)) rfl rfl rfl ?_;intro w7 i7 U;have I7:=fo (OB w6 w6.heap.size 101 (bA wv c) w7) ⟨i7.a,ag _,U⟩;clear i7 U)|(refine dX rfl 9 39 38 rfl w6 w6.heap.size 101 (bA wv c) I7.o 0 (.string tu) rfl rfl (by rw[b7L];omega) Rz rfl (bA wv {c with url:=u}) (by rw[HTU.o];rfl) ?_;intro w8 i8 _;obtain⟨I8,HC8,HO8,LE8⟩:=dT i8 (Yt.o.below i8.bL) (own_below' Bu.o i8.bL) (am EH.o i8.bL.size);clear i8)|(refine Au r5 8 rfl w6.heap.size wv {c with url:=u} ⟨I8.o.a⟩ rfl ?_)|(refine Iq rfl 41 rfl wv {c with url:=u} rfl ?_)|(at_builtin;(refine b88 rfl 40 42 rfl w2.heap.size rfl HC8.o HO8.o rfl ZH LE8.o ?_);intro v9 w9 hc9 tr;have HC9:=F hc9;have jo:=F tr;clear hc9 tr))
    go_roundg g'
    ·have r:=z.o;have hsz:=EH.o;have D:=I8.o.bL;exact⟨y,acc++[({c with url:=u}:dk)],M0,M0,by simp;omega,Bx.o,HC9.o,⟨(jo.o.block n r.1).trans ((D.block n M0).trans HA6.o.a)⟩,⟨(jo.o.block B r.2.1).trans ((D.block B M0).trans j8.o.a)⟩,(Bp.o.trans (D.m Bp.o.size)).trans (jo.o.m Eh.o.size),am LE8.o jo.o.size⟩
    ·omega

theorem Fm{ws:List O}{c:dk}(h:jM ws=some c):c.words=ws:=by
 unfold jM at h
 split at h
 ·cases h
 split at h
 ·cases h
 cases h;rfl
theorem uM{q:Stp}{l:List dk}{c:dk}(h:c∈tU q l):(c.url=q.url/\c.words=q.words)\/c∈l:=by
 unfold tU at h
 split at h
 ·exact .inr h
 next d e =>
 rcases aK.mp h with rfl|h
 ·exact .inl ⟨rfl,(show d.words=q.words from Fm e)⟩
 exact .inr h
theorem ND(q:Stp)(l:List dk):(tU q l).length<=l.length+1:=by
 unfold tU
 split
 ·exact gQ _
 exact ag _
theorem MF(u:O):(gM u).length<=u.length:=by
 unfold gM;rw[fc];have:=(ce (l:=u.reverse) λx=>decide (x=44)).length_le;rw[fc]at this;exact this
theorem Wp(t:O):(jt t).url.length<=t.length/\(jt t).words.length<=t.length:=by
 have Y:=sO fU t;have I:=gJ fU t;unfold jt
 split
 ·have:=MF (t.takeWhile fU)
  exact⟨by show(gM _).length<=_;omega,aL _⟩
 have:=(JP (s:=t.dropWhile fU) (ws:=(j7 (t.dropWhile fU)).1) (rest:=(j7 (t.dropWhile fU)).2) rfl).1;exact⟨Y,by show(j7 _).1.length<=_;omega⟩
theorem ze:∀(k:Nat) (s:O),(gL k s).length<=s.length/\∀c∈gL k s,c.url.length<=s.length/\c.words.length<=s.length
 |0,s=>⟨aL _,λc h=>by cases h⟩
 |k+1,s=>by
  rw[gL]
  split
  ·exact⟨aL _,λc h=>by cases h⟩
  next f =>
  have Y:=AX f;have I:=Wp (s.dropWhile fS);have h3:=gJ fS s;have g:=ze k (jt (s.dropWhile fS)).rest;refine⟨?_,λc h=>?_⟩
  ·have:=ND (jt (s.dropWhile fS)) (gL k (jt (s.dropWhile fS)).rest)
   omega
  rcases uM h with⟨d,e⟩|h
  ·rw[d,e];omega
  have:=g.2 c h;omega
theorem oV(s:O):(jF s).length<=s.length/\∀c∈jF s,c.url.length<=s.length/\c.words.length<=s.length:=ze s.length s
theorem sD{s:O}{r:Kg}(h:Dx s=some r):r.url.length<=s.length:=by
 have U:(bT s).length<=s.length:=gJ _ _
 have hu:∀t:O,(xI t).length<=t.length:=by
  intro t;cases t with
  |nil=>exact ag _
  |cons x r =>
   show(if x=34\/x=39 then r.takeWhile (· != x)else x::r).length<=_
   split
   ·have:=sO (· != x) r
    rw[cz];omega
   exact ag _
 have d:∀t:O,(lW t).length<=t.length:=by
  intro t;unfold lW
  split
  ·have Y:(bT (t.drop 3)).length<=(t.drop 3).length:=gJ _ _
   rw[aj]at Y
   split
   ·exact ag _
   next c q e =>
   rw[e,cz]at Y
   split
   ·have I:(bT q).length<=q.length:=gJ _ _
    omega
   exact ag _
  exact ag _
 have f:∀t:O,(xH t).length<=t.length:=by
  intro t;cases t with
  |nil=>exact ag _
  |cons c r =>
   show(if c=59\/c=44 then bT r else c::r).length<=_
   split
   ·have I:(bT r).length<=r.length:=gJ _ _
    rw[cz];omega
   exact ag _
 unfold Dx rfG at h
 split at h
 ·cases h
 have Y:=gJ pG (bT s);have I:=gJ pd ((bT s).dropWhile pG);unfold rfT at h
 split at h
 ·cases h;exact aL _
 next c t e =>
 split at h
 ·cases h
 split at h
 ·cases h;exact aL _
 cases h;have h3:=f (bT (((bT s).dropWhile pG).dropWhile pd));have h4:(bT (((bT s).dropWhile pG).dropWhile pd)).length<=_:=gJ _ _;have h5:=d (xH (bT (((bT s).dropWhile pG).dropWhile pd)));have h6:=hu (lW (xH (bT (((bT s).dropWhile pG).dropWhile pd))));show(xI _).length<=_;omega

def pH(kind:Int)(i:eu):Bool:=i.right&&(decide (kind≠2)||ti (dA i.url true))
def pI(kind:Int)(l:List eu):List eu:=l.filter (pH kind)
theorem yE{b:Url}{s:O}{ws:List O}(h:(ef b s ws).right=true):∃u,kF b s=some u/\ef b s ws=⟨true,u,ws⟩:=by
 unfold ef at h⊢;cases c:kF b s with
 |none=>rw[c]at h;cases h
 |some u=>exact⟨u,rfl,rfl⟩
theorem a9U(b:Url)(s:O)(ws:List O):(ef b s ws).words=ws:=by
 unfold ef
 split <;>rfl
theorem a7c{kind:Int}{b:Url}{s:O}(g:Good b):∀i∈(mg kind b s).items,i.right=true->Good i.url:=by
 have key:∀(s:O) (ws:List O),(ef b s ws).right=true->Good (ef b s ws).url:=λs ws h=>by
  obtain⟨u,Y,I⟩:=yE h;rw[I];exact sk g Y
 intro i hi d;unfold mg at hi
 split at hi
 ·obtain rfl:i=ef b s []:=by simpa using hi
  exact key _ _ d
 split at hi
 ·obtain⟨c,_,rfl⟩:=dt.mp hi
  exact key _ _ d
 split at hi
 ·split at hi
  ·cases hi
  next r _ =>
  dsimp only at hi
  split at hi
  ·obtain rfl:i=ef b r.url []:=by simpa using hi
   exact key _ _ d
  obtain rfl:i=⟨true,b,[]⟩:=by simpa using hi
  exact g
 cases hi
theorem a7N{kind:Int}{l:List eu}{i:eu}(h:i∈pI kind l):i∈l/\i.right=true/\(kind=2->Fit (dA i.url true)):=by
 obtain⟨Y,I⟩:=a3J.mp h;unfold pH at I;rw[f8,kj,gx]at I;exact⟨Y,I.1,λc=>(b1u _).mp (I.2.resolve_left (λh=>h c))⟩
theorem a68{kind:Int}{b:Url}{s:O}(f:kind=2):∀i∈(mg kind b s).items,∃d,jM i.words=some d:=by
 intro i hi;unfold mg at hi;rw[gc M0,ge f]at hi;obtain⟨c,e,rfl⟩:=dt.mp hi;obtain⟨d,hd,_⟩:=wO s.length s c e;exact⟨d,by rw[a9U];exact hd⟩
theorem b0V{u:Url}(g:Good u):∃x r,dA u true=x::r/\iQ (G x)=true:=by
 have h:=g.aJ.1;rw[a57];cases d:u.aJ with
 |nil=>rw[d]at h;cases h
 |cons c t =>
  rw[d]at h;unfold wH at h;rw[f8]at h;exact⟨c,_,rfl,h.1⟩
theorem b2y:∀k:Fin 256,iQ (G (UInt8.ofNat k.val))=true->mw (UInt8.ofNat k.val)=false/\UInt8.ofNat k.val≠34/\UInt8.ofNat k.val≠39:=by decide +kernel
theorem b33{x:UInt8}(h:iQ (G x)=true):mw x=false/\x≠34/\x≠39:=ku (P:=λx=>iQ (G x)=true->mw x=false/\x≠34/\x≠39) b2y x h
theorem b2N{u:Url}(g:Good u):xI (bT (dA u true))=dA u true:=by
 obtain⟨x,r,e,X⟩:=b0V g;have h:=b33 X;rw[e];have Y:bT (x::r)=x::r:=Fv h.1;rw[Y];show(if x=34\/x=39 then r.takeWhile (· != x)else x::r)=_;rw[gc (λhh=>hh.elim h.2.1 h.2.2)]
theorem b1S{l:List eu}(h:∀i∈l,Good i.url/\∃d,jM i.words=some d):∀y∈ij l,a1X y:=by
 have key:∀i∈l,∀y∈eS i,a1X y:=by
  intro i hi y hy;obtain⟨g,d,hd⟩:=h i hi;unfold eS at hy;rcases bO.mp hy with hy|hy
  ·exact a91 g y hy
  obtain⟨x,X,hy⟩:=S8.mp hy;rcases bO.mp hy with hy|hy
  ·obtain rfl:y=32:=by simpa using hy
   unfold a1X;decide
  exact(b2c (((Us hd).1 x X).c y hy)).2
 cases l with
 |nil=>intro y hy;cases hy
 |cons i r =>
  intro y hy;rcases bO.mp hy with hy|hy
  ·exact key i fA y hy
  obtain⟨j,e,hy⟩:=S8.mp hy;rcases bO.mp hy with hy|hy
  ·simp only[aK,cV,or_false]at hy
   rcases hy with rfl|rfl <;>(unfold a1X;decide)
  exact key j (cN _ e) y hy
theorem b0K:∀k:Fin 256,pG (UInt8.ofNat k.val)=true->a1X (UInt8.ofNat k.val):=by decide +kernel
theorem b2w{x:UInt8}(h:pG x=true):a1X x:=ku (P:=λx=>pG x=true->a1X x) b0K x h
theorem b3q{d x:O}(hd:∀y∈d,pG y=true)(X:∀y∈x,a1X y):∀y∈iA d true x,a1X y:=by
 intro y hy;unfold iA at hy;rw[ge rfl]at hy;rcases bO.mp hy with hy|hy
 ·rcases bO.mp hy with hy|hy
  ·exact b2w (hd y hy)
  simp only[aK,cV,or_false]at hy;rcases hy with rfl|rfl|rfl|rfl|rfl|rfl <;>(unfold a1X;decide)
 exact X y hy
theorem a8c{l:O}(h:∀y∈l,a1X y):jw (qM l)=l:=by
 refine b2O (a1r l λx X=>?_) λx X=>?_
 ·have:=(h x X).2
  omega
 rintro rfl;have:=(h 0 X).1;exact absurd this P8
theorem b0S{u:Url}(g:Good u)(b:Url):kF b (dA u true)=some u:=a83 g b
theorem a6n{u:Url}(g:Good u)(b:Url)(ws:List O):ef b (dA u true) ws=⟨true,u,ws⟩:=by
 unfold ef;rw[b0S g b]
theorem a9P{i:eu}(h:i.right=true):(⟨true,i.url,i.words⟩:eu)=i:=by
 cases i;cases h;rfl
theorem zr:∀(k:Nat) (s:O),∀w∈(jQ k s).1,w.length<=s.length
 |0,s,w,h=>by cases h
 |k+1,s,w,h=>by
  have Y:=gJ mw s;unfold jQ at h
  split at h
  ·cases h
  rcases aK.mp h with rfl|h
  ·rw[aD];omega
  have:=zr k _ w h;rw[aj]at this;omega
theorem a0W(t:O):∀w∈(jt t).words,w.length<=t.length:=by
 unfold jt
 split
 ·intro w h;cases h
 intro w h;have:=zr _ (t.dropWhile fU) w h;have:=gJ fU t;omega
theorem DP:∀(k:Nat) (s:O),∀c∈gL k s,∀w∈c.words,w.length<=s.length
 |0,_,c,h=>by cases h
 |k+1,s,c,h=>by
  have Y:=gJ fS s;unfold gL at h
  split at h
  ·cases h
  next d =>
  have hr:=AX d;rcases uM h with h|h
  ·intro w hw
   rw[h.2]at hw;have:=a0W (s.dropWhile fS) w hw;omega
  intro w hw;have:=DP k _ c h w hw;omega
def pE(c:dk):Nat:=(if c.hw=true then 1 else 0)+(if c.hh=true then 1 else 0)+(if c.hd=true then 1 else 0)
theorem My{c e:dk}{w:O}(h:ni c w=some e):pE e=pE c+1:=by
 unfold ni at h
 split at h
 ·cases h
 split at h
 ·split at h
  ·cases h
  split at h
  ·cases h
  next d =>
  injection h with h
  rw[<-h];have:c.hw=false:=by cases hh:c.hw <;>simp[hh]at d⊢
  unfold pE;simp[this];omega
 split at h
 ·split at h
  ·cases h
  split at h
  ·cases h
  next d =>
  injection h with h
  rw[<-h];have:c.hh=false:=by cases hh:c.hh <;>simp[hh]at d⊢
  unfold pE;simp[this];omega
 split at h
 ·split at h
  ·cases h
  split at h
  ·cases h
  next d =>
  injection h with h
  rw[<-h];have:c.hd=false:=by cases hh:c.hd <;>simp[hh]at d⊢
  unfold pE;simp[this]
 cases h
theorem wQ:∀{ws:List O} {c e:dk},lU c ws=some e->pE c+ws.length=pE e
 | [],c,e,h=>by
  injection h with h
  rw[h];rfl
 |x::l,c,e,h=>by
  unfold lU at h
  split at h
  ·cases h
  next d hd =>
  have Y:=My hd;have I:=wQ h;rw[cz];omega
theorem Zm{ws:List O}{c:dk}(h:jM ws=some c):ws.length<=3:=by
 unfold jM at h
 split at h
 ·cases h
 next d hd =>
 have Y:=wQ hd;have I:pE d<=3:=by unfold pE;split <;>split <;>split <;>omega
 have h0:pE C0=0:=rfl;omega
theorem Hm{ws:List O}{n:Nat}(h:∀w∈ws,w.length<=n):(du ws).length<=(n+1)*ws.length:=by
 induction ws with
 |nil=>simp[du]
 |cons x r c =>
  have Y:=c λw hw=>h w (cN _ hw);have I:=h x fA
  have e:(du (x::r)).length=(x.length+1)+(du r).length:=by
   simp only[du,cM,ae,cz,aO];omega
  rw[e,cz,Nat.mul_add,b5v];omega

theorem Ia(w:H):(Instr.alloc 48 true (Value.tuple #[])).run prog w=.ok (.pointer (some ⟨w.heap.size,0,none⟩)) (w.alloc (.cells (bC aI aI I0) 48)):=Rz
theorem Xs(A:Z)(u:Url)(h:u.host.six.length=8):∀w,(Instr.build 48 #[(0,.bool true),(1,.agg (ai A u))]).run prog w=.ok (.agg (bC A aI ⟨true,u,[]⟩)) w:=by
 obtain⟨aJ,usr,ib,⟨hk,hn,hf,six⟩,a1,a2,a3,a4,a5,a6,a7,a8,a9⟩:=u;simp only at h;obtain⟨a,b,c,d,e,f,g,i,rfl⟩:=eight h;intro w
 kernel_rfl
section
variable {ops:Array Oper} {rest:List Oper} {o:Oper} {a:Act} {w:H} {Q:Exit->Act->H->Prop}
theorem a5a(g:o.guard=none)(x y:Operand)(j:o.op=.store 48 x y)(w0:H)(b:Nat){d e:Z}{i0:eu}(i:OB w0 b 48 (bC d e i0) w)(c:i0.url.host.six.length=8)(A wv:Z)(it:eu)(f:it.url.host.six.length=8)
  (hp:A.oneCell'=true) (hw:wv.oneCell'=true) (X:a.eval x=.pointer (some ⟨b,0,none⟩)) (hy:a.eval y=.agg (bC A wv it))
  (K:∀h,OB w0 b 48 (bC A wv it) h->Tn b w h->wpList prog ops Q rest (a.put o.dst undef) h):wpList prog ops Q (o::rest) a w :=
 rh g 48 x y j w0 b 48 (bC d e i0) i 0 (bN A wv it) X hy (by rw[lL f,mF c];exact bW rfl) (by rw[lL f];exact mG) (Qh hp hw) (bC A wv it) (mQ _ _ (by rw[lL c,lL f])) K
end
theorem a4Y{f:Func}{k:Nat}(h:f.results=#[.cell k 48]){tmps:Array Z}{w0 d:H}{b:Nat}{A wv:Z}{it:eu}{Post:Ending->H->Prop}(e:it.url.host.six.length=8)(j:tmps.getD k undef=.pointer (some ⟨b,0,none⟩))
  (i:OB w0 b 48 (bC A wv it) d) (g:Post (.returned (.agg (bC A wv it))) d) :
  bodyPost prog f Post Exit.ret {tmps:=tmps,defers:=[]} d:=by
 have c:tmps[k]?.getD undef=.pointer (some ⟨b,0,none⟩):=by simpa using j
 have l:=i.load (P:=prog) 48 _ underlying48 rfl (by rw[mF e];exact mG);refine bodyPost_ret (v:=.agg (bC A wv it)) ?_ rfl g;simp[results,h,asAddr,c,l]
theorem a5G(w:H)(bv:Z)(u:Url):∃W,(w.alloc (.cells (ai bv u) 34)).alloc (.cells (bC aI aI I0) 48)=W/\CB W w.heap.size 34 (ai bv u)/\OB w (w.heap.size+1) 48 (bC aI aI I0) W:=by
 have X:=CB.new w 34 (ai bv u);have U:=(gT w.heap.size w).alloc (ag _) (.cells (ai bv u) 34);obtain⟨e,d⟩:=V (w.alloc (.cells (ai bv u) 34));have f:e.heap.size=w.heap.size+1:=by rw[d];simp
 rw[<-d]at X U⊢;have hy:=CB.new e 48 (bC aI aI I0);have c:=(gT e.heap.size e).alloc (ag _) (.cells (bC aI aI I0) 48);rw[f]at hy;exact⟨_,rfl,X.keep c,OB.of hy (gQ _) (dw U c)⟩
def a2I(w:H)(it:eu):Ending->H->Prop:=λe w'=>∃A,e=.returned (.agg (bC A aI it))/\it.url.host.six.length=8/\w'.ownsRow w.heap.size 9 1 A it.url.path.length (Strs it.url.path)/\r7 w w'
theorem og(d:Url)(bv:Z)(s:O)(w:H)(r:d.host.six.length=8)(p:Sl w.heap.size w bv (d.path.map S))(n:Bs d.path)(M:s.length<=1048576)(L:Env w) :
  Calls prog 52 #[.agg (ai bv d),.string (E s)] w (a2I w (ef d s [])):=by
 obtain⟨x,k,C⟩:=cZ (λu (h:kF d s=some u)=>(show u.host.six.length=8 from ot r h)) (λW (U:r7 w W)=>L4 d bv s W r ((p.below U).more U.size) n M (L.below U)) r;obtain⟨z,N⟩:=V (E s);rw[<-N]at k⊢;obtain⟨it,hit⟩:=V (ef d s []);rw[<-hit];unfold ef at hit;clear N M L r p n;obtain⟨W2,q,P,R⟩:=a5G w bv d;obtain⟨D,K2,i⟩:=cZ P R q;clear P R q;cases f:kF d s with
 |none =>
  have y:=F<|λW U=>(show bF prog 85 #[.agg (ai bv d),.string z] W (.tuple #[.agg (ai aI U0),.bool false])from by have h:=k.o W U;rw[f]at h;exact h);rw[f]at hit;have c:=fo (it=I0) hit;clear f hit x k;go_enter func52,ntmps52
  go_upto_region 1 with(refine aM rfl 48 rfl _ _ (Ia _) ?_)
  rw[i.o]
  go_wp2_with(first|(refine cR r5 2 rfl _ bv d C.o rfl D.o ?_)|(go_at_call 85;refine(y.o _ K2.o.bL).k λw3 U=>?_;have t:=F<|K2.o.below U.o;clear U)|(refine aM rfl 34 rfl _ _ (eD _) ?_)|(refine fL rfl 5 11 rfl aI U0 rfl rfl rfl rfl rfl ?_;intro w4 l U;have B:=F l;have v:=F<|t.o.below U;clear l U)|(refine a5a rfl 4 15 rfl w (w.heap.size+1) v.o rfl aI aI I0 rfl rfl rfl rfl rfl ?_;intro w5 i5 _;have j:=F i5;clear i5))
  exact a4Y (it:=I0) results52 rfl rfl j.o ⟨aI,by rw[c.o],by rw[c.o];rfl,by rw[c.o];exact iZ _ _ _ _,j.o.bL⟩
 |some u =>
  have y:=F<|λW U=>(show Calls prog 85 #[.agg (ai bv d),.string z] W λe w'=>∃A,e=.returned (.tuple #[.agg (ai A u),.bool true])/\w'.ownsRow W.heap.size 9 1 A u.path.length (Strs u.path)/\r7 W w' from by have h:=k.o W U;rw[f]at h;exact h);rw[f]at hit;have c:=fo (it=⟨true,u,[]⟩) hit;have g:=F<|x.o u f;clear f hit x k;go_enter func52,ntmps52
  go_upto_region 1 with(refine aM rfl 48 rfl _ _ (Ia _) ?_)
  rw[i.o]
  go_wp2_with(first|(refine cR r5 2 rfl _ bv d C.o rfl D.o ?_)|(go_at_call 85;refine(y.o _ K2.o.bL).m ?_;rintro e w3⟨A,rfl,T,U⟩;have t:=F<|K2.o.below U;have J:=F T;clear U T)|(refine aM rfl 34 rfl _ _ (eD _) ?_)|(refine fL rfl 5 11 rfl A u g.o (bm J.o) rfl rfl rfl ?_;intro w4 l U;obtain⟨B,v,K⟩:=cZ l (t.o.below U) (own_below' J.o U);clear l U)|(refine cR r5 5 rfl _ A u g.o rfl B.o ?_;refine bR rfl 48 #[(0,.const (.bool true)),(1,.tmp 16)] rfl (.agg (bC A aI ⟨true,u,[]⟩)) #[(0,.bool true),(1,.agg (ai A u))] (by simp only[m9,dh,pz];rfl) (Xs A u g.o) ?_;refine a5a rfl 4 17 rfl w (w.heap.size+1) v.o rfl A aI ⟨true,u,[]⟩ g.o (bm K.o) rfl rfl rfl ?_;intro w5 i5 t5;have j:=F i5;have O5:=F<|ea (t5.row K.o K2.o.lt) K2.o.bL.size;clear i5 t5))
  exact a4Y (it:=⟨true,u,[]⟩) results52 g.o rfl j.o ⟨A,by rw[c.o],by rw[c.o];exact g.o,by rw[c.o];exact O5.o,j.o.bL⟩
