/- Joined texts. -/
import Derived.Test.YtmndlfglgcioeaaGreatDoorEGFloB
set_option maxHeartbeats 40000000
namespace Go.Proofs.YtmndlfglgcioeaaGreatDoor
open Tryz
open Go.RowKit
set_option maxRecDepth 10000
abbrev I0:eG:=⟨false,U0,[]⟩
abbrev ce(pv wv:Value)(i:eG):Array Value:=(aO pv wv i).toArray
theorem zj:(prog.info? 41).map (fun i=>(i.zero,i.size,i.bytes))=some (some (.agg (ce aR aR I0)),25,240):=by kernel_rfl
theorem rQ:(prog.info? 41).map (·.size)=some 25:=by kernel_rfl
theorem lU{pv wv:Value}{i:eG}(h:i.url.host.six.length=8):(aO pv wv i).length=25:=by simp[aO,pm h]
theorem qQ{pv wv:Value}{i:eG}(h:i.url.host.six.length=8):(ce pv wv i).size=25:=by rw[eJ,lU h]
theorem JS{pv wv:Value}{i:eG}(hp:pv.oneCell'=true)(hw:wv.oneCell'=true):∀ v∈aO pv wv i,v.oneCell'=true:=by
 intro v hv;rcases aj.mp hv with rfl|hv
 ·rfl
 rcases au.mp hv with hv|hv
 ·exact xX hp v hv
 obtain rfl:v=wv:=by simpa using hv
 exact hw
structure mw (W:World) (base:Nat) (p:(Value×Value)×eG):Prop where
 six:p.2.url.host.six.length=8
 path:W.ownsRow base 9 1 p.1.1 p.2.url.path.length (Strs p.2.url.path)
 words:W.ownsRow base 9 1 p.1.2 p.2.words.length (Strs p.2.words)
abbrev ipc(p:(Value×Value)×eG):List Value:=aO p.1.1 p.1.2 p.2
def fS(W:World)(base:Nat)(v:Value)(l:List eG):Prop:=∃ ps:List ((Value×Value)×eG),ps.map (·.2)=l∧W.ownsRow base 41 25 v ps.length (ps.flatMap ipc)∧∀ p∈ps,mw W base p
theorem kZ{w:World}{base base' e s n:Nat}{v:Value}{xs:List Value}(h:w.ownsRow base e s v n xs)(hb:base'<=base):w.ownsRow base' e s v n xs:=by
 refine⟨h.1,?_⟩;rcases h.2 with h0|⟨g,cap,cur,e1,hg,hr⟩
 ·exact .inl h0
 exact .inr ⟨g,cap,cur,e1,ap hb hg,hr⟩
theorem mw.below{W W':World}{base:Nat}{p:(Value×Value)×eG}(h:mw W base p)(hb:Below W.heap.size W W'):mw W' base p:=⟨h.six,own_below' h.path hb,own_below' h.words hb⟩
theorem mw.base{W:World}{base base':Nat}{p:(Value×Value)×eG}(h:mw W base p)(hb:base'<=base):mw W base' p:=⟨h.six,kZ h.path hb,kZ h.words hb⟩
theorem fS.nil(W:World)(base:Nat):fS W base (.slice none 0 0) []:=⟨[],rfl,World.ownsRow_nil _ _ _ _,fun p hp=>by cases hp⟩
theorem fS.below{W W':World}{base:Nat}{v:Value}{l:List eG}(c:fS W base v l)(h:Below W.heap.size W W'):fS W' base v l:=by
 obtain⟨ps,h1,h2,h3⟩:=c;exact⟨ps,h1,own_below h2 h,fun p hp=>(h3 p hp).below h⟩
theorem fS.base{W:World}{base base':Nat}{v:Value}{l:List eG}(c:fS W base v l)(hb:base'<=base):fS W base' v l:=by
 obtain⟨ps,h1,h2,h3⟩:=c;exact⟨ps,h1,kZ h2 hb,fun p hp=>(h3 p hp).base hb⟩
theorem fS.len{W:World}{base:Nat}{v:Value}{l:List eG}(c:fS W base v l):∃ a cp,v=.slice a l.length cp:=by
 obtain⟨ps,rfl,h2,_⟩:=c;rw[am];rcases h2.2 with⟨rfl,h0⟩|⟨g,cap,cur,rfl,_⟩
 ·exact⟨none,0,by rw[h0]⟩
 exact⟨_,_,rfl⟩
theorem fS.items{W:World}{base:Nat}{v:Value}{l:List eG}(c:fS W base v l)(hok:∀ i∈l,gI i.url):Items W.heap.size W v l:=by
 obtain⟨ps,rfl,h2,h3⟩:=c;rcases h2.2 with⟨rfl,h0⟩|⟨g,cap,cur,rfl,hg,hh,hnc,hcm,hsz,htk⟩
 ·have:ps=[]:=ak h0
  subst this;exact⟨0,af _,.inl ⟨rfl,none,rfl⟩⟩
 refine⟨cap,by rw[am];exact hnc,.inr ⟨g,0,(bQ.1 hh).1,by rw[am],fun k hk=>?_⟩⟩;have hk':k<ps.length:=by simpa using hk
 have hp:=h3 ps[k] (bw hk');refine⟨ps[k].1.1,ps[k].1.2,fun j x hj=>?_,?_,?_,?_⟩
 ·rw[cR]at hj
  have a0w:j<25:=by
   have:=(bf.1 hj).1;rw[lU hp.six]at this;exact this
  have hf:=u6 ipc 25 ps (fun p hp=>lU (h3 p hp).six) k j hk' a0w;have:=h2.cells (g:=g) rfl (k*25+j) x (hf.trans hj);rw[addr_add,<-Nat.add_assoc]at this;exact this
 ·exact hok _ (bw hk)
 ·rw[cR]
  exact Sl.dM (lq hp.path)
 rw[cR];exact Sl.dM (lq hp.words)
section
variable {ops:Array Oper} {rest:List Oper} {o:Oper} {a:Act} {w:World} {Q:Exit->Act->World->Prop}
theorem a3L(pv wv:Value)(i:eG)(h8:i.url.host.six.length=8)(w:World):(Instr.buildSlice 33 1 #[(0,.agg (ce pv wv i))]).run prog w=.ok (.slice (some ⟨w.heap.size,0,none⟩) 1 1) (w.alloc (.cells (ce pv wv i) 41)):=by
 obtain⟨rt,⟨aH,usr,fp,⟨hk,hn,hf,six⟩,a1,a2,a3,a4,a5,a6,a7,a8,a9⟩,ws⟩:=i;simp only at h8;obtain⟨a,b,c,d,e,f,g,i,rfl⟩:=eight h8
 kernel_rfl
theorem pC(hg:o.guard=none)(y:Operand)(ho:o.op=.buildSlice 33 1 #[(0,y)])(pv wv:Value)(i:eG)(h8:i.url.host.six.length=8)(hy:a.eval y=.agg (ce pv wv i))
  (h:wpList prog ops Q rest (a.put o.dst (.slice (some ⟨w.heap.size,0,none⟩) 1 1)) (w.alloc (.cells (ce pv wv i) 41))):wpList prog ops Q (o::rest) a w:=by
 refine wpList_plain hg fun K hK=>?_;unfold Oper.wp execOp;have e:(#[(0,y)]:Array (Nat×Operand)).map (fun(i,x)=>(i,a.eval x))=#[(0,.agg (ce pv wv i))]:=by simp[hy]
 simp only[ho,Sem.run_bind,Sem.run_pure,Result.andThen_ok,e,a3L pv wv i h8];exact hK _ _ h
theorem fS.one(w:World){base:Nat}{pv wv:Value}{i:eG}(hp:mw w base ((pv,wv),i))(hb:base<=w.heap.size):fS (w.alloc (.cells (ce pv wv i) 41)) base (.slice (some ⟨w.heap.size,0,none⟩) 1 1) [i]:=by
 have b0:Below w.heap.size w (w.alloc (.cells (ce pv wv i) 41)):=(Below.refl _ _).alloc (af _) _;refine⟨[((pv,wv),i)],rfl,?_,?_⟩
 ·have hfm:[((pv,wv),i)].flatMap ipc=aO pv wv i:=by simp
  rw[hfm];refine⟨by simp[lU hp.six],.inr ⟨w.heap.size,1,ce pv wv i,rfl,hb,heap_alloc_new w _,af _,by decide,by rw[qQ hp.six],by show(aO pv wv i).take (1*25)=_;exact aP (by rw[lU hp.six];exact af _)⟩⟩
 intro p h;obtain rfl:p=((pv,wv),i):=by simpa using h
 exact hp.below b0
theorem a5K(hgd:o.guard=none)(s x:Operand)(ho:o.op=.call {callee:=.builtin .append,args:=#[s,x],argTypes:=#[33,33]})
  (base:Nat) {v pv wv:Value} {l:List eG} {c:eG} (hs:a.eval s=v) (hown:fS w base v l) (hw:mw w base ((pv,wv),c)) (hx:a.eval x=.slice (some ⟨w.heap.size,0,none⟩) 1 1)
  (h63:l.length+1<=1000000000) (hbase:base<=w.heap.size)
  (h:∀ v' w',fS w' base v' (l++[c])->Below base w w'->wpList prog ops Q rest (a.put o.dst v') w') :
  wpList prog ops Q (o::rest) a (w.alloc (.cells (ce pv wv c) 41)):=by
 obtain⟨i,hi,hz,hz1,hz2⟩:=info_parts zj;obtain⟨ps,rfl,h2,h3⟩:=hown;rw[am]at h63;have hb0:Below w.heap.size w (w.alloc (.cells (ce pv wv c) 41)):=(Below.refl _ _).alloc (af _) _;refine wpList_append_own_at _ hgd s x _ ho base 41 i _ 25 240 underlying33 hi hz hz1 hz2 (by rfl) (by decide) v ps.length _ hs (h2.alloc _) ⟨w.heap.size,0,none⟩ 1 1 (aO pv wv c) hx (by rw[lU hw.six]) ?_ (JS (bm hw.path) (bm hw.words)) (by unfold maxLen;omega) (by omega) (ap hbase hb0.size) ?_
 ·intro j u hj
  rw[addr_add,bC];have hj2:(ce pv wv c)[j]? = some u:=by rw[bT];exact hj
  rw[World.cell?_alloc_mark];exact hj2
 intro v' w' ho' hg _ _
 have hkeep:∀ {u:Value} {ws:List Bytes},w.ownsRow base 9 1 u ws.length (Strs ws)->w'.ownsRow base 9 1 u ws.length (Strs ws):=by
  intro u ws hu;have hu1:=own_below' hu hb0;refine⟨hu1.1,?_⟩;rcases hu1.2 with h0|⟨g,cap,cur,e1,hgb,hh,hr⟩
  ·exact .inl h0
  refine .inr ⟨g,cap,cur,e1,hgb,(hg.block g (bQ.1 hh).1 fun e=>?_).trans hh,hr⟩;exact Ta hu1 (h2.alloc (.cells (ce pv wv c) 41)) (by decide) g (by rw[e1];rfl) e.symm
 refine h v' w' ⟨ps++[((pv,wv),c)],by simp,?_,?_⟩ ?_
 ·rw[ae,cQ]
  simpa using ho'
 ·intro p hp
  rcases au.mp hp with hp|hp
  ·exact⟨(h3 p hp).six,hkeep (h3 p hp).path,hkeep (h3 p hp).words⟩
  obtain rfl:p=((pv,wv),c):=by simpa using hp
  exact⟨hw.six,hkeep hw.path,hkeep hw.words⟩
 exact((hb0.mono hbase)).grown hg (ap hbase hb0.size) (fun k hk=>(h2.lt k hk).1)
end

theorem PJ{wv:Value}{c:da}(h:wv.oneCell'=true):(bA wv c).all (·.oneCell')=true:=all_oneCell_toArray (Js h)
def SpP(l:List da)(w:World):Ending->World->Prop:=fun e w'=>∃ v,e=.returned v∧k8 w' w.heap.size v l∧Below w.heap.size w w'
theorem Ae:∀ (k:Nat) (s:Bytes),(kF k s).1.length+(kF k s).2.length<=s.length∧∀ x∈(kF k s).1,x.length<=s.length
 |0,s=>⟨by show 0+s.length<=_;omega,fun x h=>by cases h⟩
 |k+1,s=>by
  have hd:=iN jk s;rw[kF]
  split
  ·exact⟨by show 0+(s.dropWhile jk).length<=_;omega,fun x h=>by cases h⟩
  next hz =>
  have hw:=mV (s.dropWhile jk) false;have ih:=Ae k ((s.dropWhile jk).drop (fR false (s.dropWhile jk)));rw[ah]at ih;refine⟨?_,?_⟩
  ·simp only[ag]
   have:=ih.1;omega
  intro x hx;rcases aj.mp hx with rfl|hx
  ·rw[aE];omega
  have:=ih.2 x hx;omega
theorem KU{s:Bytes}{ws:List Bytes}{rest:Bytes}(h:jY s=(ws,rest)):ws.length<=s.length∧∀ x∈ws,x.length<=s.length:=by
 have:=Ae s.length s;unfold jY at h;rw[h]at this;exact⟨by have:=this.1;simp only at this;omega,this.2⟩
theorem KQ(p:UInt8->Bool):∀ l:Bytes,l.take (l.takeWhile p).length=l.takeWhile p
 | []=>rfl
 |c::r=>by
  cases h:p c with
  |true=>rw[aY h,ag,cY,KQ p r]
  |false=>rw[aX (by rw[h];simp)];rfl
theorem Dk:gJ []=some C0:=rfl
theorem BK(l:Bytes)(w:World)(hl:l.length<=1024000000)(hE:Env w):Calls prog 13 #[.string (bs l)] w (SpP (iG l) w):=by
 obtain⟨N,hN⟩:=az (l.length);have HN:=h_ hN;have HE:=h_ hE;obtain⟨t,ht⟩:=az (bs l);have Re:t.size=N:=by rw[ht,aM,hN]
 rw[<-hN]at hl;rw[<-ht];have HT:=h_ ht;obtain⟨R,hR⟩:=az (iG l);rw[<-hR];have HR:=h_ hR;clear hN hE ht hR;go_enter func13,ntmps13
 go_upto_region 2 with fail
 have CB1:=h_ (CB.new w 9 #[.string t]);have b1:=(Below.refl w.heap.size w).alloc (af _) (.cells #[.string t] 9);obtain⟨B,hB⟩:=az (w.heap.size);obtain⟨w1,hw1⟩:=az (w.alloc (.cells #[.string t] 9));rw[<-hw1]at CB1 b1 ⊢;rw[<-hB]at CB1 ⊢;clear hw1
 go_upto_region 3 with fail
 have CA2:=h_ (CB.new w1 3 #[.int .i64 0]);have b2:=(Below.refl w1.heap.size w1).alloc (af _) (.cells #[.int .i64 0] 3);obtain⟨A,hA⟩:=az (w1.heap.size);obtain⟨w2,hw2⟩:=az (w1.alloc (.cells #[.int .i64 0] 3));rw[<-hw2]at CA2 b2 ⊢;rw[<-hA]at CA2 ⊢;clear hw2;have CB2:=h_ (CB1.out.keep b2);have Fm:=h_ (b1.trans (b2.mono b1.size))
 have lZ:=h_ (show A<w2.heap.size∧B<w2.heap.size∧w.heap.size<=A∧B≠A from by
  have h1:=CA2.out.lt;have h2:=CB2.out.lt;have h3:=CB1.out.lt;have h4:=b1.size;omega)
 clear hA hB b1 b2 CB1
 go_wp2_with fail
 go_loopg [3] (N+1) (fun gf lv wr=>∃ (j:Nat) (acc:List da),j<=N∧N-j<gf∧acc.length<=j∧Hid (R=acc++iG (l.drop j))∧Hid (k8 wr w2.heap.size lv acc)∧Hid (CB wr A 3 #[.int .i64 (j:Int)])∧Hid (CB wr B 9 #[.string t])∧Hid (Below w.heap.size w wr)∧Hid (w2.heap.size<=wr.heap.size))
 case atStart=>exact⟨0,[],aK _,by omega,af _,by rw[HR.out];rfl,k8.nil _ _,CA2.out,CB2.out,Fm.out,af _⟩
 case round =>
  obtain⟨j,acc,hjN,hf,hal,HW,HC,HA,HB,mW,fL⟩:=hrel;obtain⟨g',rfl⟩:∃ g',gk=g'+1:=⟨gk-1,by omega⟩;have hll:l.length<=1024000000:=by rw[<-HN.out];exact hl
  have hjl:j<=l.length:=by rw[<-HN.out];exact hjN
  have hBb:∀ W,CB W B 9 #[.string t]->CB W B 9 #[.string (bs l)]:=fun W h=>by rw[<-HT.out];exact h
  have hBt:∀ W,CB W B 9 #[.string (bs l)]->CB W B 9 #[.string t]:=fun W h=>by rw[HT.out];exact h
  have hs1:=r8 ZH l j A B false wr hll hjl HA.out (hBb _ HB.out) (fun b h=>by cases h) (by simp) (by simp) lZ.out.2.2.2;rw[uS]at hs1;obtain⟨j1,hj1⟩:=az (j+((l.drop j).takeWhile eW).length)
  have V7:j1<=l.length:=by
   have:=tB eW (l.drop j);rw[ah]at this;omega
  have hd1:l.drop j1=(l.drop j).dropWhile eW:=by rw[hj1,<-List.drop_drop,vi]
  rw[<-hj1]at hs1;have hsr:=BJ (l.drop j);rw[<-hd1]at hsr;have HS1:=h_ hs1;have hjj:j<=j1:=by omega
  clear hs1 hj1
  go_wp2_with fail
  refine HS1.out.mono ?_;rintro e w3 ⟨rfl,hA,hB,hF⟩;have OC:=h_ hA;have HB3:=h_ (hBt _ hB);have Lc:=h_ (hF.below mW.out (fun i h=>h.elim (fun e=>by have:=lZ.out;omega) (fun e=>by cases e)) mW.out.size);have HC3:=h_ (HC.out.fk hF (fun g h1 _ h2=>h2.elim (fun e=>by have:=lZ.out;omega) (fun e=>by cases e)));have a3b:=h_ (ap fL.out hF.s);clear hA hB hF HS1;have c1:=OC.out.aF (j:=0) (v:=.int .i64 (j1:Int)) rfl;have c2:=HB3.out.aF (j:=0) (v:=.string t) rfl;by_cases hend:j1=N
  ·have he:((j1:Int)==(N:Int))=true:=by rw[hend];simp
   have vm:=h_ (show R=acc by
    rw[HW.out,hsr,if_pos (bB (by rw[<-HN.out,hend];exact af _))];simp)
   clear hsr hd1 hBb hBt hend
   go_wp2_with fail
   go_ret;exact⟨_,rfl,by rw[vm.out];exact HC3.out.base Fm.out.size,Lc.out⟩
  have he:((j1:Int)==(N:Int))=false:=by rw[beq_eq_false_iff_ne];omega
  have b3C:j1<N:=by have:=HN.out;omega
  have hne:l.drop j1 ≠ []:=fun h=>by
   have:=congrArg List.length h;rw[ah,aN]at this;have:=HN.out;omega
  rw[if_neg hne]at hsr;obtain⟨x0,r0,hx0,hx1⟩:=dw_head (p:=eW) (s:=l.drop j) (by rw[<-hd1];exact hne);rw[<-hd1]at hx0;obtain⟨u,hu⟩:=az ((l.drop j1).takeWhile eR);have hu1:1<=u.length:=by rw[hu,hx0,aY (PN hx1),ag];omega
  have Wj:u.length<=l.length-j1:=by
   have:=tB eR (l.drop j1);rw[ah]at this;rw[hu];exact this
  obtain⟨j2,hj2⟩:=az (j1+u.length);have a9t:j2<=l.length:=by omega
  have hd2:l.drop j2=(l.drop j1).dropWhile eR:=by rw[hj2,hu,<-List.drop_drop,vi]
  have hstp:jb (l.drop j1)=if lf u=true then⟨g9 u,[],l.drop j2⟩else⟨u,(jY (l.drop j2)).1,(jY (l.drop j2)).2.drop 1⟩:=by unfold jb;rw[<-hu,<-hd2]
  rw[hstp]at hsr
  have HS2:=h_ (show Calls prog 35 #[.func (.func 38) #[] #[],.pointer (some ⟨A,0,none⟩),.pointer (some ⟨B,0,none⟩)] w3 fun e w' =>
    e=.returned (S u)∧CB w' A 3 #[.int .i64 (j2:Int)]∧CB w' B 9 #[.string (bs l)]∧Fk (SkJ A none) w3 w' from by
   have h:=r8 ZJ l j1 A B false w3 hll V7 OC.out (hBb _ HB3.out) (fun b h=>by cases h) (by simp) (by simp) lZ.out.2.2.2;rw[uS,<-hu,<-hj2]at h;have e1:(l.drop j1).take u.length=u:=by rw[hu];exact KQ eR (l.drop j1)
   rw[e1]at h;exact h)
  have a0N:u.length<=1024000000:=by omega
  have hsf:=fun W=>a0H u W a0N;have htr:=fun W=>a1K u W a0N;have IN:=h_ (fun W (a:CB W A 3 #[.int .i64 (j2:Int)]) (b:CB W B 9 #[.string (bs l)])=>vG l j2 A B W hll a9t a b lZ.out.2.2.2);obtain⟨tu,htu⟩:=az (bs u);have HTU:=h_ (show Value.string tu=S u by rw[htu]);rw[show S u=Value.string tu by rw[htu]]at HS2;rw[<-htu]at hsf htr;have HTR:=h_ htr;have HJ:=h_ (show j<j2∧j2<=N by have:=HN.out;omega);clear htr hstp hd2 Wj hx0 hx1 hu hne hd1 htu hj2 hu1 a0N hend
  go_wp2_with fail
  refine HS2.out.mono ?_;rintro e w4 ⟨rfl,hA,hB,hF⟩;have HA4:=h_ hA;have a7h:=h_ hB;have eM:=h_ (hBt _ hB);have UE:=h_ (hF.below Lc.out (fun i h=>h.elim (fun e=>by have:=lZ.out;omega) (fun e=>by cases e)) Lc.out.size);have Ld:=h_ (HC3.out.fk hF (fun g h1 _ h2=>h2.elim (fun e=>by have:=lZ.out;omega) (fun e=>by cases e)));have UW:=h_ (ap a3b.out hF.s);clear hA hB hF HS2 c1 c2 HC HA HB mW fL OC HB3 Lc HC3 a3b;cases hcm:lf u with
  |true =>
   rw[if_pos hcm]at hsr;rw[hcm]at hsf;have Zo:=h_ hsf
   have Cu:=h_ (show R=(acc++[{C0 with url:=g9 u}])++iG (l.drop j2) by
    rw[HW.out,hsr];unfold sE;simp only[Dk];simp)
   obtain⟨tx,htx⟩:=az (bs (g9 u));have Zs:=h_ (show Value.string tx=S (g9 u) by rw[htx]);rw[show S (g9 u)=Value.string tx by rw[htx]]at HTR;clear hsf hsr hcm htx HW
   go_wp2_with (first
    |(go_at_call 39;refine(Zo.out _).mono ?_;rintro e w5 ⟨rfl,hw⟩;subst w5)
    |(go_at_call 40;refine(HTR.out _).mono ?_;rintro e w5 ⟨rfl,hb⟩;have gH:=h_ hb;clear hb)
    |fail)
   have hde:=rC [] aR w5 Sl.nil (by simp) (fun x h=>by cases h) ((HE.out.below UE.out).below gH.out);rw[Dk]at hde;obtain⟨c,hc⟩:=az (C0);rw[<-hc]at hde Cu;have UH:=h_ (show Calls prog 42 #[aR] w5 fun e w'=>∃ wv,e=.returned (.tuple #[.agg (bA wv c),.bool true])∧w'.ownsRow w5.heap.size 9 1 wv c.words.length (Strs c.words)∧Below w5.heap.size w5 w' from hde);clear hde hc;refine UH.out.mono ?_;rintro e w6 ⟨wv,rfl,ho,hb⟩;have HD6:=h_ (gH.out.trans (hb.mono gH.out.size));have Cs:=h_ (bh ho (ap UW.out gH.out.size));clear ho hb;have HA6:=h_ (HA4.out.keep HD6.out);have jM:=h_ (eM.out.keep HD6.out);have Cl:=h_ (iK UE.out HD6.out);have Zb:=h_ (Ld.out.below HD6.out);have FF:=h_ (ap UW.out HD6.out.size);have hj9:=HJ.out;have a0p:acc.length+1<=1099511627776:=by omega
   go_wp2_with (first
    |(refine aS rfl 45 rfl _ _ (Lj _) ?_)
    |(refine mg rfl 45 (.tmp 8) (.tmp 35) rfl (bA wv c) (bA aR C0) oA rfl (PJ (bm Cs.out)) rfl rfl rfl ?_;intro w7 i7 hb;have I7:=h_ (show OB w6 w6.heap.size 45 (bA wv c) w7 from⟨i7.a,af _,hb⟩);clear i7 hb)
    |(refine ex rfl 9 (.tmp 39) (.tmp 38) rfl w6 w6.heap.size 45 (bA wv c) I7.out 0 (.string tx) rfl rfl (by rw[F7];omega) (by kernel_rfl) rfl (bA wv {c with url:=(g9 u)}) (by rw[Zs.out];rfl) ?_;intro w8 i8 _;have I8:=h_ i8;have HC8:=h_ (Zb.out.below i8.bL);have HO8:=h_ (own_below' Cs.out i8.bL);have LE8:=h_ (ap FF.out i8.bL.size);clear i8)
    |(refine Bj (by rfl) (.tmp 8) rfl w6.heap.size wv {c with url:=(g9 u)} ⟨I8.out.a⟩ rfl ?_)
    |(refine Jr rfl (.tmp 41) rfl wv {c with url:=(g9 u)} rfl ?_)
    |(at_builtin;(refine YL rfl (.tmp 40) (.tmp 42) rfl w2.heap.size rfl HC8.out HO8.out rfl a0p LE8.out ?_);intro v9 w9 hc9 tR;have HC9:=h_ hc9;have ka:=h_ tR;clear hc9 tR)
    |fail)
   go_roundg g'
   case measure=>omega
   case rel =>
    have hlt:=lZ.out;have hsz:=FF.out;have Fu:=I8.out.bL;exact⟨j2,acc++[({c with url:=(g9 u)}:da)],by omega,by omega,by simp;omega,Cu.out,HC9.out,⟨(ka.out.block A hlt.1).trans ((Fu.block A (by omega)).trans HA6.out.a)⟩,⟨(ka.out.block B hlt.2.1).trans ((Fu.block B (by omega)).trans jM.out.a)⟩,(Cl.out.trans (Fu.mono Cl.out.size)).trans (ka.out.mono Fm.out.size),ap LE8.out ka.out.size⟩
  |false =>
   rw[if_neg (by rw[hcm];simp)]at hsr;rw[hcm]at hsf;have Zo:=h_ hsf;obtain⟨ws,rest,hwd⟩:∃ a b,jY (l.drop j2)=(a,b):=⟨_,_,rfl⟩;rw[hwd]at hsr IN;have hwl:=KU hwd;clear hsf hcm
   go_wp2_with (first
    |(go_at_call 39;refine(Zo.out _).mono ?_;rintro e w5 ⟨rfl,hw⟩;subst w5)
    |fail)
   refine(IN.out _ HA4.out a7h.out).mono ?_;rintro e w5 ⟨v5,k',rfl,hk1,hk2,hk3,ho5,hA,hB,hF⟩;have Ux:=h_ hA;have gH:=h_ (hBt _ hB);have UF:=h_ (hF.below UE.out (fun i h=>by have:=lZ.out;omega) UE.out.size);have HC5:=h_ (Ld.out.fk hF (fun g h1 _ h2=>by have:=lZ.out;omega));have Zp:=h_ (ap UW.out hF.s);have yk:=h_ ho5;have HWL:=h_ (show ws.length<=1024000000∧∀ x∈ws,x.length<=1024000000 from⟨by have:=hwl.1;rw[ah]at this;omega,fun x hx=>by have:=hwl.2 x hx;rw[ah]at this;omega⟩);clear hA hB hF ho5 IN hwl;have c1:=Ux.out.aF (j:=0) (v:=.int .i64 (k':Int)) rfl;have c2:=gH.out.aF (j:=0) (v:=.string t) rfl;have f1:=Ux.out.wy 0
   change l.drop k'=rest at hk3
   by_cases hkN:k' < N
   case' pos =>
    have hlt:(k':Int)<(N:Int):=by omega
    obtain⟨j3,hj3⟩:=az (k'+1);have hw3:IntKind.i64.wrap ((k':Int)+1)=(j3:Int):=by rw[IntWalk.i64_in _ (by omega)];omega
    have HR3:=h_ (show l.drop j3=rest.drop 1 by rw[<-hk3,rh,hj3]);have HJ3:=h_ (show j<j3∧j3<=N by have:=HJ.out;omega);clear hk3 hj3
    go_wp2_with fail
    have hF:=Fk.set (J:=fun x=>x=A) Ux.out 0 (.int .i64 (j3:Int)) rfl;have hA:=Ux.out.set 0 (.int .i64 (j3:Int));obtain⟨YT,hw5⟩:=az (w5.setCell ⟨A,0,none⟩ (.int .i64 (j3:Int)));rw[<-hw5]at hF hA ⊢;have Uy:=h_ (show CB YT A 3 #[.int .i64 (j3:Int)]from hA);have Y5:=h_ (hF.cb gH.out lZ.out.2.2.2);have IL:=h_ (hF.below UF.out (fun i h=>by have:=lZ.out;omega) UF.out.size);have Za:=h_ (HC5.out.fk hF (fun g h1 _ h2=>by have:=lZ.out;omega));have IV:=h_ (ap Zp.out hF.s);have a21:=h_ (hF.row yk.out (fun g h1 _ _ h2=>by have:=lZ.out;have:=UW.out;omega));clear hF hA hw5 c1 c2 f1
   case' neg =>
    have hlt:¬ (k':Int)<(N:Int):=by omega
    obtain⟨j3,hj3⟩:=az (k')
    have HR3:=h_ (show l.drop j3=rest.drop 1 by
     have e1:rest=[]:=by rw[<-hk3];exact bB (by have:=HN.out;omega)
     rw[hj3,hk3,e1];rfl)
    have HJ3:=h_ (show j<j3∧j3<=N by have:=HJ.out;have:=HN.out;omega);have Uy:=h_ (show CB w5 A 3 #[.int .i64 (j3:Int)] by rw[hj3];exact Ux.out);clear hk3 hj3
    go_wp2_with fail
    obtain⟨YT,hw5⟩:=az (w5);rw[<-hw5]at Uy gH UF HC5 Zp yk ⊢;have Y5:=gH;have IL:=UF;have Za:=HC5;have IV:=Zp;have a21:=yk;clear hw5 c1 c2 f1
   all_goals
    have hde:=rC ws v5 YT (Sl.dM (lq a21.out)) HWL.out.1 HWL.out.2 (HE.out.below IL.out);cases hP:gJ ws with
    |none =>
     rw[hP]at hde
     have Cu:=h_ (show R=acc++iG (l.drop j3) by
      rw[HW.out,hsr];unfold sE;simp only[hP];rw[HR3.out])
     have UH:=h_ (show bN prog 42 #[v5] YT (.tuple #[.agg (bA aR C0),.bool false])from hde);clear hde hP hsr;refine UH.out.mono ?_;rintro e w6 ⟨rfl,hb⟩;have HA6:=h_ (Uy.out.keep hb);have jM:=h_ (Y5.out.keep hb);have Cl:=h_ (iK IL.out hb);have Zb:=h_ (Za.out.below hb);have FF:=h_ (ap IV.out hb.size);clear hb;have hj9:=HJ3.out
     go_wp2_with (first
      |(refine aS rfl 45 rfl _ _ (Lj _) ?_)
      |(refine mg rfl 45 (.tmp 8) (.tmp 35) rfl (bA aR C0) (bA aR C0) oA rfl (PJ rfl) rfl rfl rfl ?_;intro w7 i7 hb;have I7:=h_ hb;clear i7 hb)
      |fail)
     go_roundg g'
     case measure=>omega
     case rel =>
      have hlt:=lZ.out;have hsz:=FF.out;have Fu:=I7.out;exact⟨j3,acc,by omega,by omega,by omega,Cu.out,Zb.out.below Fu,⟨(Fu.block A (by omega)).trans HA6.out.a⟩,⟨(Fu.block B (by omega)).trans jM.out.a⟩,Cl.out.trans (Fu.mono Cl.out.size),ap hsz Fu.size⟩
    |some c =>
     rw[hP]at hde
     have Cu:=h_ (show R=(acc++[{c with url:=u}])++iG (l.drop j3) by
      rw[HW.out,hsr];unfold sE;simp only[hP];rw[HR3.out];simp)
     have UH:=h_ (show Calls prog 42 #[v5] YT fun e w'=>∃ wv,e=.returned (.tuple #[.agg (bA wv c),.bool true])∧w'.ownsRow YT.heap.size 9 1 wv c.words.length (Strs c.words)∧Below YT.heap.size YT w' from hde);clear hde hP hsr;refine UH.out.mono ?_;rintro e w6 ⟨wv,rfl,ho,hb⟩;have HA6:=h_ (Uy.out.keep hb);have jM:=h_ (Y5.out.keep hb);have Cl:=h_ (iK IL.out hb);have Zb:=h_ (Za.out.below hb);have FF:=h_ (ap IV.out hb.size);have Cs:=h_ (bh ho IV.out);clear hb ho;have hj9:=HJ3.out;have a0p:acc.length+1<=1099511627776:=by omega
     go_wp2_with (first
      |(refine aS rfl 45 rfl _ _ (Lj _) ?_)
      |(refine mg rfl 45 (.tmp 8) (.tmp 35) rfl (bA wv c) (bA aR C0) oA rfl (PJ (bm Cs.out)) rfl rfl rfl ?_;intro w7 i7 hb;have I7:=h_ (show OB w6 w6.heap.size 45 (bA wv c) w7 from⟨i7.a,af _,hb⟩);clear i7 hb)
      |(refine ex rfl 9 (.tmp 39) (.tmp 38) rfl w6 w6.heap.size 45 (bA wv c) I7.out 0 (.string tu) rfl rfl (by rw[F7];omega) (by kernel_rfl) rfl (bA wv {c with url:=u}) (by rw[HTU.out];rfl) ?_;intro w8 i8 _;have I8:=h_ i8;have HC8:=h_ (Zb.out.below i8.bL);have HO8:=h_ (own_below' Cs.out i8.bL);have LE8:=h_ (ap FF.out i8.bL.size);clear i8)
      |(refine Bj (by rfl) (.tmp 8) rfl w6.heap.size wv {c with url:=u} ⟨I8.out.a⟩ rfl ?_)
      |(refine Jr rfl (.tmp 41) rfl wv {c with url:=u} rfl ?_)
      |(at_builtin;(refine YL rfl (.tmp 40) (.tmp 42) rfl w2.heap.size rfl HC8.out HO8.out rfl a0p LE8.out ?_);intro v9 w9 hc9 tR;have HC9:=h_ hc9;have ka:=h_ tR;clear hc9 tR)
      |fail)
     go_roundg g'
     case measure=>omega
     case rel =>
      have hlt:=lZ.out;have hsz:=FF.out;have Fu:=I8.out.bL;exact⟨j3,acc++[({c with url:=u}:da)],by omega,by omega,by simp;omega,Cu.out,HC9.out,⟨(ka.out.block A hlt.1).trans ((Fu.block A (by omega)).trans HA6.out.a)⟩,⟨(ka.out.block B hlt.2.1).trans ((Fu.block B (by omega)).trans jM.out.a)⟩,(Cl.out.trans (Fu.mono Cl.out.size)).trans (ka.out.mono Fm.out.size),ap LE8.out ka.out.size⟩

theorem Gg{ws:List Bytes}{c:da}(h:gJ ws=some c):c.words=ws:=by
 unfold gJ at h
 split at h
 ·cases h
 split at h
 ·cases h
 cases h;rfl
theorem vq{q:Stp}{l:List da}{c:da}(h:c∈sE q l):(c.url=q.url∧c.words=q.words)∨c∈l:=by
 unfold sE at h
 split at h
 ·exact .inr h
 next c0 h0 =>
 rcases aj.mp h with rfl|h
 ·exact .inl ⟨rfl,(show c0.words=q.words from Gg h0)⟩
 exact .inr h
theorem OW(q:Stp)(l:List da):(sE q l).length<=l.length+1:=by
 unfold sE
 split
 ·exact gQ _
 exact af _
theorem NQ(u:Bytes):(g9 u).length<=u.length:=by
 unfold g9;rw[iC];have:=(cD (l:=u.reverse) fun x=>decide (x=44)).length_le;rw[iC]at this;exact this
theorem Xm(t:Bytes):(jb t).url.length<=t.length∧(jb t).words.length<=t.length:=by
 have h1:=tB eR t;have h2:=iN eR t;unfold jb
 split
 ·have:=NQ (t.takeWhile eR)
  exact⟨by show(g9 _).length<=_;omega,aK _⟩
 have:=(KU (s:=t.dropWhile eR) (ws:=(jY (t.dropWhile eR)).1) (rest:=(jY (t.dropWhile eR)).2) rfl).1;exact⟨h1,by show(jY _).1.length<=_;omega⟩
theorem zX:∀ (k:Nat) (s:Bytes),(iS k s).length<=s.length∧∀ c∈iS k s,c.url.length<=s.length∧c.words.length<=s.length
 |0,s=>⟨aK _,fun c h=>by cases h⟩
 |k+1,s=>by
  rw[iS]
  split
  ·exact⟨aK _,fun c h=>by cases h⟩
  next hz =>
  have h1:=BN hz;have h2:=Xm (s.dropWhile eW);have h3:=iN eW s;have ih:=zX k (jb (s.dropWhile eW)).rest;refine⟨?_,fun c h=>?_⟩
  ·have:=OW (jb (s.dropWhile eW)) (iS k (jb (s.dropWhile eW)).rest)
   omega
  rcases vq h with⟨e1,e2⟩|h
  ·rw[e1,e2];omega
  have:=ih.2 c h;omega
theorem pQ(s:Bytes):(iG s).length<=s.length∧∀ c∈iG s,c.url.length<=s.length∧c.words.length<=s.length:=zX s.length s
theorem xw{s:Bytes}{r:Jd}(h:xu s=some r):r.url.length<=s.length:=by
 have hb:(bG s).length<=s.length:=iN _ _
 have hu:∀ t:Bytes,(uG t).length<=t.length:=by
  intro t;cases t with
  |nil=>exact af _
  |cons x r =>
   show(if x=34∨x=39 then r.takeWhile (· != x)else x::r).length<=_
   split
   ·have:=tB (· != x) r
    rw[ag];omega
   exact af _
 have hn:∀ t:Bytes,(ly t).length<=t.length:=by
  intro t;unfold ly
  split
  ·have h1:(bG (t.drop 3)).length<=(t.drop 3).length:=iN _ _
   rw[ah]at h1
   split
   ·exact af _
   next c q e =>
   rw[e,ag]at h1
   split
   ·have h2:(bG q).length<=q.length:=iN _ _
    omega
   exact af _
  exact af _
 have hs:∀ t:Bytes,(xH t).length<=t.length:=by
  intro t;cases t with
  |nil=>exact af _
  |cons c r =>
   show(if c=59∨c=44 then bG r else c::r).length<=_
   split
   ·have h2:(bG r).length<=r.length:=iN _ _
    rw[ag];omega
   exact af _
 unfold xu YO at h
 split at h
 ·cases h
 have h1:=iN kY (bG s);have h2:=iN pd ((bG s).dropWhile kY);unfold W5 at h
 split at h
 ·cases h;exact aK _
 next c t e =>
 split at h
 ·cases h
 split at h
 ·cases h;exact aK _
 cases h;have h3:=hs (bG (((bG s).dropWhile kY).dropWhile pd));have h4:(bG (((bG s).dropWhile kY).dropWhile pd)).length<=_:=iN _ _;have h5:=hn (xH (bG (((bG s).dropWhile kY).dropWhile pd)));have h6:=hu (ly (xH (bG (((bG s).dropWhile kY).dropWhile pd))));show(uG _).length<=_;omega

def mM(kind:Int)(i:eG):Bool:=i.right&&(decide (kind≠2)||lR (di i.url true))
def cP(kind:Int)(l:List eG):List eG:=l.filter (mM kind)
theorem mL{b:Url}{s:Bytes}{ws:List Bytes}(h:(dC b s ws).right=true):∃ u,lX b s=some u∧dC b s ws=⟨true,u,ws⟩:=by
 unfold dC at h ⊢;cases hr:lX b s with
 |none=>rw[hr]at h;cases h
 |some u=>exact⟨u,rfl,rfl⟩
theorem Kd(b:Url)(s:Bytes)(ws:List Bytes):(dC b s ws).words=ws:=by
 unfold dC
 split <;>rfl
theorem Bv{kind:Int}{b:Url}{s:Bytes}(g:Good b):∀ i∈(fK kind b s).items,i.right=true->Good i.url:=by
 have key:∀ (s:Bytes) (ws:List Bytes),(dC b s ws).right=true->Good (dC b s ws).url:=fun s ws h=>by
  obtain⟨u,h1,h2⟩:=mL h;rw[h2];exact nJ g h1
 intro i hi hr;unfold fK at hi
 split at hi
 ·obtain rfl:i=dC b s []:=by simpa using hi
  exact key _ _ hr
 split at hi
 ·obtain⟨c,_,rfl⟩:=cm.mp hi
  exact key _ _ hr
 split at hi
 ·split at hi
  ·cases hi
  next r _ =>
  dsimp only at hi
  split at hi
  ·obtain rfl:i=dC b r.url []:=by simpa using hi
   exact key _ _ hr
  obtain rfl:i=⟨true,b,[]⟩:=by simpa using hi
  exact g
 cases hi
theorem fy{kind:Int}{l:List eG}{i:eG}(h:i∈cP kind l):i∈l∧i.right=true∧(kind=2->Fit (di i.url true)):=by
 obtain⟨h1,h2⟩:=yu.mp h;unfold mM at h2;rw[bD,fF,decide_eq_true_eq]at h2;exact⟨h1,h2.1,fun hk=>(Qy _).mp (h2.2.resolve_left (fun h=>h hk))⟩
theorem Bu{kind:Int}{b:Url}{s:Bytes}(hk:kind=2):∀ i∈(fK kind b s).items,∃d,gJ i.words=some d:=by
 intro i hi;unfold fK at hi;rw[if_neg (by omega),if_pos hk]at hi;obtain⟨c,hc,rfl⟩:=cm.mp hi;obtain⟨d,hd,_⟩:=sa s.length s c hc;exact⟨d,by rw[Kd];exact hd⟩
theorem Nv{u:Url}(g:Good u):∃ x r,di u true=x::r∧iP (b2 x)=true:=by
 have h:=g.aH.1;rw[s8];cases hs:u.aH with
 |nil=>rw[hs]at h;cases h
 |cons c t =>
  rw[hs]at h;unfold qZ at h;rw[bD]at h;exact⟨c,_,rfl,h.1⟩
theorem Wu:∀ k:Fin 256,iP (b2 (UInt8.ofNat k.val))=true->jk (UInt8.ofNat k.val)=false∧UInt8.ofNat k.val≠34∧UInt8.ofNat k.val≠39:=by decide +kernel
theorem a5w{x:UInt8}(h:iP (b2 x)=true):jk x=false∧x≠34∧x≠39:=kh (P:=fun x=>iP (b2 x)=true->jk x=false∧x≠34∧x≠39) Wu x h
theorem Xz{u:Url}(g:Good u):uG (bG (di u true))=di u true:=by
 obtain⟨x,r,e,hx⟩:=Nv g;have h:=a5w hx;rw[e];have h1:bG (x::r)=x::r:=iE h.1;rw[h1];show(if x=34∨x=39 then r.takeWhile (· != x)else x::r)=_;rw[if_neg (fun hh=>hh.elim h.2.1 h.2.2)]
theorem Sb{l:List eG}(h:∀ i∈l,Good i.url∧∃ d,gJ i.words=some d):∀ y∈fM l,eo y:=by
 have key:∀ i∈l,∀y∈dQ i,eo y:=by
  intro i hi y hy;obtain⟨g,d,hd⟩:=h i hi;unfold dQ at hy;rcases au.mp hy with hy|hy
  ·exact KF g y hy
  obtain⟨x,hx,hy⟩:=cT.mp hy;rcases au.mp hy with hy|hy
  ·obtain rfl:y=32:=by simpa using hy
   unfold eo;decide
  exact(TP (((uZ hd).1 x hx).c y hy)).2
 cases l with
 |nil=>intro y hy;cases hy
 |cons i r =>
  intro y hy;rcases au.mp hy with hy|hy
  ·exact key i bM y hy
  obtain⟨j,hj,hy⟩:=cT.mp hy;rcases au.mp hy with hy|hy
  ·simp only[aj,bl,or_false]at hy
   rcases hy with rfl|rfl <;>(unfold eo;decide)
  exact key j (be _ hj) y hy
theorem Mz:∀ k:Fin 256,kY (UInt8.ofNat k.val)=true->eo (UInt8.ofNat k.val):=by decide +kernel
theorem Wm{x:UInt8}(h:kY x=true):eo x:=kh (P:=fun x=>kY x=true->eo x) Mz x h
theorem a1r{d x:Bytes}(hd:∀ y∈d,kY y=true)(hx:∀ y∈x,eo y):∀ y∈S8 d true x,eo y:=by
 intro y hy;unfold S8 at hy;rw[if_pos rfl]at hy;rcases au.mp hy with hy|hy
 ·rcases au.mp hy with hy|hy
  ·exact Wm (hd y hy)
  simp only[aj,bl,or_false]at hy;rcases hy with rfl|rfl|rfl|rfl|rfl|rfl <;>(unfold eo;decide)
 exact hx y hy
theorem Fb{l:Bytes}(h:∀ y∈l,eo y):oj (eX l)=l:=by
 refine XB (xp l fun x hx=>?_) fun x hx=>?_
 ·have:=(h x hx).2
  omega
 rintro rfl;have:=(h 0 hx).1;exact absurd this (by decide)
theorem Nh{u:Url}(g:Good u)(b:Url):lX b (di u true)=some u:=Hy g b
theorem wQ{u:Url}(g:Good u)(b:Url)(ws:List Bytes):dC b (di u true) ws=⟨true,u,ws⟩:=by
 unfold dC;rw[Nh g b]
theorem Ka{i:eG}(h:i.right=true):(⟨true,i.url,i.words⟩:eG)=i:=by
 cases i;cases h;rfl
theorem CQ{kind:Int}{b:Url}{s:Bytes}(g:Good b):∀ y∈iM kind (cP kind (fK kind b s).items) (fK kind b s).delay,eo y:=by
 have hg:∀ i∈cP kind (fK kind b s).items,Good i.url:=fun i hi=>Bv g i (fy hi).1 (fy hi).2.1
 have hf:∀ y∈AT (cP kind (fK kind b s).items),eo y:=by
  cases hl:cP kind (fK kind b s).items with
  |nil=>intro y hy;cases hy
  |cons i r=>exact KF (hg i (by rw[hl];exact bM))
 unfold iM
 split
 ·exact hf
 split
 ·next hk=>exact Sb fun i hi=>⟨hg i hi,Bu hk i (fy hi).1⟩
 split
 ·next h1 h2 h3 =>
  refine a1r ?_ hf;unfold fK;rw[if_neg h1,if_neg h2,if_pos h3];cases hr:xu s with
  |none=>intro y hy;cases hy
  |some r=>exact(Ey hr).a
 intro y hy;cases hy
theorem LS{kind:Int}{b:Url}{s:Bytes}(g:Good b)(hne:cP kind (fK kind b s).items ≠ []) :
  fK kind b (oj (ic kind (cP kind (fK kind b s).items) (fK kind b s).delay))=⟨cP kind (fK kind b s).items,(fK kind b s).delay⟩:=by
 have hw:ic kind (cP kind (fK kind b s).items) (fK kind b s).delay=eX (iM kind (cP kind (fK kind b s).items) (fK kind b s).delay):=by
  unfold ic;rw[if_neg hne]
 rw[hw,Fb (CQ g)];by_cases h1:kind=1
 ·subst h1
  have e:fK 1 b s=⟨[dC b s []],[]⟩:=by unfold fK;rw[if_pos rfl]
  rw[e]at hne ⊢;dsimp only at hne ⊢;cases hr:mM 1 (dC b s [])with
  |false=>exact absurd (show cP 1 [dC b s []]=[]from bj (by rw[hr];simp)) hne
  |true =>
   have ek:cP 1 [dC b s []]=[dC b s []]:=bk hr;have hm:dC b s []∈cP 1 [dC b s []]:=by rw[ek];exact bM
   obtain⟨u,hu,hi⟩:=mL (fy hm).2.1;rw[ek,hi];have eb:iM 1 [⟨true,u,[]⟩] []=di u true:=by unfold iM;rw[if_pos rfl];rfl
   rw[eb];unfold fK;rw[if_pos rfl,wQ (nJ g hu)]
 by_cases h2:kind=2
 ·obtain⟨L,hL⟩:=az (cP kind (fK kind b s).items)
  have hd:(fK kind b s).delay=[]:=by unfold fK;rw[if_neg h1,if_pos h2]
  have hp:∀ i∈L,i.right=true∧Good i.url∧∃ d,LOk (di i.url true) i.words d:=by
   intro i hi;rw[hL]at hi;obtain⟨d,e⟩:=Bu h2 i (fy hi).1;exact⟨(fy hi).2.1,Bv g i (fy hi).1 (fy hi).2.1,d,(fy hi).2.2 h2,e⟩
  rw[<-hL,hd];have eb:iM kind L []=fM L:=by unfold iM;rw[if_neg h1,if_pos h2]
  rw[eb]
  have es:=EV (fun i=>(gJ i.words).getD C0) L fun i hi=>by
   obtain⟨_,_,d,hl⟩:=hp i hi;rw[hl.d];exact hl
  unfold fK;rw[if_neg h1,if_pos h2,es,gP]
  congr 1
  have:∀ l:List eG,(∀i∈l,i∈L)->l.map ((fun c:da=>dC b c.url c.words) ∘ fun i=>{(gJ i.words).getD C0 with url:=di i.url true})=l:=by
   intro l
   induction l with
   |nil=>intro _;rfl
   |cons i r ih =>
    intro h;obtain⟨hr,gi,d,hl⟩:=hp i (h i bM);rw[dw,ih fun j hj=>h j (be _ hj)]
    congr 1
    show dC b (di i.url true) ((gJ i.words).getD C0).words=i;rw[hl.d];show dC b (di i.url true) d.words=i;rw[(uZ hl.d).2,wQ gi,Ka hr]
  exact this L fun i hi=>hi
 by_cases h3:kind=3
 ·subst h3
  cases hr:xu s with
  |none =>
   have e:fK 3 b s=⟨[],[]⟩:=by unfold fK;rw[if_neg h1,if_neg h2,if_pos rfl,hr]
   rw[e]at hne;exact absurd rfl hne
  |some r =>
   have e:fK 3 b s=⟨[if r.has=true then dC b r.url []else⟨true,b,[]⟩],r.delay⟩:=by unfold fK;rw[if_neg h1,if_neg h2,if_pos rfl,hr]
   obtain⟨x,hx⟩:=az ((if r.has=true then dC b r.url []else(⟨true,b,[]⟩:eG)))
   have hxw:x.words=[]:=by
    rw[hx]
    split
    ·exact Kd _ _ _
    rfl
   have hgx:=Bv (kind:=3) (s:=s) g;rw[e,<-hx]at hne hgx ⊢;dsimp only at hne hgx ⊢;cases hk:mM 3 x with
   |false=>exact absurd (show cP 3 [x]=[]from bj (by rw[hk];simp)) hne
   |true =>
    have ek:cP 3 [x]=[x]:=bk hk;have hm:x∈cP 3 [x]:=by rw[ek];exact bM
    have Us:=(fy hm).2.1;have gx:=hgx x bM Us;rw[ek]
    have eb:iM 3 [x] r.delay=r.delay++([59,32,117,114,108,61]++di x.url true):=by
     unfold iM S8;rw[if_neg (by decide),if_neg (by decide),if_pos rfl,if_pos rfl,aT];rfl
    have eu:=a1s (x:=di x.url true) (Ey hr);rw[Xz gx]at eu;rw[eb];unfold fK;rw[if_neg h1,if_neg h2,if_pos rfl,eu];dsimp only;rw[if_pos rfl,wQ gx];have:=Ka Us;rw[hxw]at this;rw[this]
 have e:fK kind b s=⟨[],[]⟩:=by unfold fK;rw[if_neg h1,if_neg h2,if_neg h3]
 rw[e]at hne;exact absurd rfl hne
def kE:List Bytes:=[[38,97,109,112,59],[38,35,51,52,59],[38,35,51,57,59],[38,35,54,48,59],[38,35,54,50,59],[38,35,57,54,59]]
def lB(s:Bytes):Bool:=kE.any fun t=>Lib.hasPrefix s t
def WK(s:Bytes):Bool:=match s with
 | []=>true
 |x::_=>!(decide (b2 x<32∨126<b2 x)) && !((decide (b2 x=38) && !lB s)||(decide (b2 x≠38)&&decide (lI (b2 x) ≠ [])))
def jB:Bytes->Bool
 | []=>true
 |x::r=>WK (x::r)&&jB r
theorem Ss{x:UInt8}{r:Bytes}(h:eo x)(Yq:b2 x≠38)(he:lI (b2 x)=[]):WK (x::r)=true:=by
 unfold WK;dsimp only;rw[decide_eq_false (show ¬(b2 x<32∨126<b2 x)from fun hh=>by have h1:=h.1;have h2:=h.2;omega),decide_eq_false Yq,decide_eq_false (show ¬lI (b2 x) ≠ []from fun hh=>hh he),Bool.and_false];rfl
theorem qW{x:UInt8}{r:Bytes}(h:WK (x::r)=true):jB (x::r)=jB r:=by
 rw[jB,h,kU]
theorem WY(t r:Bytes):Lib.hasPrefix (t++r) t=true:=by
 unfold Lib.hasPrefix;simp
theorem Xu{t:Bytes}(ht:t∈kE)(hx:∃ q,t=38::q∧∀ x∈q,eo x∧b2 x≠38∧lI (b2 x)=[])(r:Bytes):jB (t++r)=jB r:=by
 obtain⟨q,rfl,hq⟩:=hx;have hw:lB ((38::q)++r)=true:=kr.mpr ⟨_,ht,WY _ _⟩
 have h0:WK (38::(q++r))=true:=by
  unfold WK;dsimp only;rw[show lB (38::(q++r))=true from hw];rfl
 show jB (38::(q++r))=_;rw[qW h0];clear hw h0 ht
 induction q with
 |nil=>rfl
 |cons x q ih =>
  obtain⟨h1,h2,h3⟩:=hq x bM;show jB (x::(q++r))=_;rw[qW (Ss h1 h2 h3),ih fun y hy=>hq y (be _ hy)]
theorem Xs:∀ t∈kE,∃q,t=38::q∧∀ x∈q,eo x∧b2 x≠38∧lI (b2 x)=[]:=by
 intro t ht;unfold kE at ht;simp only[aj,bl,or_false]at ht;rcases ht with rfl|rfl|rfl|rfl|rfl|rfl <;>exact⟨_,rfl,by unfold eo;decide⟩
theorem y4{c:Int}(h:lI c ≠ []):lI c∈kE:=by
 revert h;unfold lI kE
 repeat' split
 all_goals simp
theorem zC:∀ {l:Bytes},(∀y∈l,eo y)->jB (eX l)=true
 | [],_=>rfl
 |x::r,h=>by
  have ih:=zC (l:=r) fun y hy=>h y (be _ hy);show jB (jm x++eX r)=true;unfold jm
  split
  ·next he =>
   have Yq:b2 x≠38:=fun h=>by rw[h]at he;exact absurd he (by decide)
   show jB (x::eX r)=true;rw[qW (Ss (h x bM) Yq he),ih]
  next he=>rw[Xu (y4 he) (Xs _ (y4 he)),ih]
theorem Ad:∀ (k:Nat) (s:Bytes),∀w∈(kF k s).1,w.length<=s.length
 |0,s,w,h=>by cases h
 |k+1,s,w,h=>by
  have h1:=iN jk s;unfold kF at h
  split at h
  ·cases h
  rcases aj.mp h with rfl|h
  ·rw[aE];omega
  have:=Ad k _ w h;rw[ah]at this;omega
theorem a1H(t:Bytes):∀ w∈(jb t).words,w.length<=t.length:=by
 unfold jb
 split
 ·intro w h;cases h
 intro w h;have:=Ad _ (t.dropWhile eR) w h;have:=iN eR t;omega
theorem EU:∀ (k:Nat) (s:Bytes),∀c∈iS k s,∀w∈c.words,w.length<=s.length
 |0,_,c,h=>by cases h
 |k+1,s,c,h=>by
  have h1:=iN eW s;unfold iS at h
  split at h
  ·cases h
  next hz =>
  have hr:=BN hz;rcases vq h with h|h
  ·intro w hw
   rw[h.2]at hw;have:=a1H (s.dropWhile eW) w hw;omega
  intro w hw;have:=EU k _ c h w hw;omega
def qr(c:da):Nat:=(if c.hw=true then 1 else 0)+(if c.hh=true then 1 else 0)+(if c.hd=true then 1 else 0)
theorem NL{c c':da}{w:Bytes}(h:nV c w=some c'):qr c'=qr c+1:=by
 unfold nV at h
 split at h
 ·cases h
 split at h
 ·split at h
  ·cases h
  split at h
  ·cases h
  next hn =>
  injection h with h
  rw[<-h];have:c.hw=false:=by cases hh:c.hw <;>simp[hh]at hn ⊢
  unfold qr;simp[this];omega
 split at h
 ·split at h
  ·cases h
  split at h
  ·cases h
  next hn =>
  injection h with h
  rw[<-h];have:c.hh=false:=by cases hh:c.hh <;>simp[hh]at hn ⊢
  unfold qr;simp[this];omega
 split at h
 ·split at h
  ·cases h
  split at h
  ·cases h
  next hn =>
  injection h with h
  rw[<-h];have:c.hd=false:=by cases hh:c.hd <;>simp[hh]at hn ⊢
  unfold qr;simp[this]
 cases h
theorem xO:∀ {ws:List Bytes} {c c':da},mU c ws=some c'->qr c+ws.length=qr c'
 | [],c,c',h=>by
  injection h with h
  rw[h];rfl
 |x::l,c,c',h=>by
  unfold mU at h
  split at h
  ·cases h
  next d hd =>
  have h1:=NL hd;have h2:=xO h;rw[ag];omega
theorem Z3{ws:List Bytes}{c:da}(h:gJ ws=some c):ws.length<=3:=by
 unfold gJ at h
 split at h
 ·cases h
 next d hd =>
 have h1:=xO hd;have h2:qr d<=3:=by unfold qr;split <;>split <;>split <;>omega
 have h0:qr C0=0:=rfl;omega
theorem IJ{ws:List Bytes}{n:Nat}(h:∀ w∈ws,w.length<=n):(cy ws).length<=(n+1)*ws.length:=by
 induction ws with
 |nil=>simp[cy]
 |cons x r ih =>
  have h1:=ih fun w hw=>h w (be _ hw);have h2:=h x bM
  have e:(cy (x::r)).length=(x.length+1)+(cy r).length:=by
   simp only[cy,ch,ae,ag,aN];omega
  rw[e,ag,Nat.mul_add,Nat.mul_one];omega

theorem CD(w:World):(Instr.alloc 41 true (Value.tuple #[])).run prog w=.ok (.pointer (some ⟨w.heap.size,0,none⟩)) (w.alloc (.cells (ce aR aR I0) 41)):=by kernel_rfl
theorem Yg(pv:Value)(u:Url)(h8:u.host.six.length=8):∀ w,(Instr.build 41 #[(0,.bool true),(1,.agg (ai pv u))]).run prog w=.ok (.agg (ce pv aR ⟨true,u,[]⟩)) w:=by
 obtain⟨aH,usr,fp,⟨hk,hn,hf,six⟩,a1,a2,a3,a4,a5,a6,a7,a8,a9⟩:=u;simp only at h8;obtain⟨a,b,c,d,e,f,g,i,rfl⟩:=eight h8;intro w
 kernel_rfl
section
variable {ops:Array Oper} {rest:List Oper} {o:Oper} {a:Act} {w:World} {Q:Exit->Act->World->Prop}
theorem a5M(hgd:o.guard=none)(x y:Operand)(ho:o.op=.store 41 x y)(w0:World)(b:Nat){pv0 wv0:Value}{i0:eG}(i:OB w0 b 41 (ce pv0 wv0 i0) w)(h60:i0.url.host.six.length=8)(pv wv:Value)(it:eG)(h6:it.url.host.six.length=8)
  (hp:pv.oneCell'=true) (hw:wv.oneCell'=true) (hx:a.eval x=.pointer (some ⟨b,0,none⟩)) (hy:a.eval y=.agg (ce pv wv it))
  (K:∀ w',OB w0 b 41 (ce pv wv it) w'->Tn b w w'->wpList prog ops Q rest (a.put o.dst undef) w'):wpList prog ops Q (o::rest) a w :=
 t4 hgd 41 x y ho w0 b 41 (ce pv0 wv0 i0) i 0 (aO pv wv it) hx hy (by rw[lU h6,qQ h60];exact bR rfl) (by rw[lU h6];exact rQ) (JS hp hw) (ce pv wv it) (nI _ _ (by rw[lU h60,lU h6])) K
end
theorem a5t{f:Func}{k:Nat}(hf:f.results=#[.cell k 41]){tmps:Array Value}{w0 w2:World}{b:Nat}{pv wv:Value}{it:eG}{Post:Ending->World->Prop}(h8:it.url.host.six.length=8)(hk:tmps.getD k undef=.pointer (some ⟨b,0,none⟩))
  (i:OB w0 b 41 (ce pv wv it) w2) (hP:Post (.returned (.agg (ce pv wv it))) w2) :
  bodyPost prog f Post Exit.ret {tmps:=tmps,defers:=[]} w2:=by
 have h2':tmps[k]?.getD undef=.pointer (some ⟨b,0,none⟩):=by simpa using hk
 have hl:=i.load (P:=prog) 41 _ underlying41 rfl (by rw[qQ h8];exact rQ);refine bodyPost_ret (v:=.agg (ce pv wv it)) ?_ rfl hP;simp[results,hf,asAddr,h2',hl]
theorem a51(w:World)(bv:Value)(u:Url):∃ W,(w.alloc (.cells (ai bv u) 30)).alloc (.cells (ce aR aR I0) 41)=W∧CB W w.heap.size 30 (ai bv u)∧OB w (w.heap.size+1) 41 (ce aR aR I0) W:=by
 have hx:=CB.new w 30 (ai bv u);have hb:=(Below.refl w.heap.size w).alloc (af _) (.cells (ai bv u) 30);obtain⟨w1,hw1⟩:=az (w.alloc (.cells (ai bv u) 30));have hz1:w1.heap.size=w.heap.size+1:=by rw[hw1];simp
 rw[<-hw1]at hx hb ⊢;have hy:=CB.new w1 41 (ce aR aR I0);have hb2:=(Below.refl w1.heap.size w1).alloc (af _) (.cells (ce aR aR I0) 41);rw[hz1]at hy;exact⟨_,rfl,hx.keep hb2,OB.of hy (gQ _) (iK hb hb2)⟩
def a3h(w:World)(it:eG):Ending->World->Prop:=fun e w'=>∃ pv,e=.returned (.agg (ce pv aR it))∧it.url.host.six.length=8∧w'.ownsRow w.heap.size 9 1 pv it.url.path.length (Strs it.url.path)∧Below w.heap.size w w'
theorem oP(bu:Url)(bv:Value)(s:Bytes)(w:World)(h8:bu.host.six.length=8)(hbv:Sl w.heap.size w bv (bu.path.map S))(hbs:Bs bu.path)(hs:s.length<=1048576)(hE:Env w) :
  Calls prog 29 #[.agg (ai bv bu),.string (bs s)] w (a3h w (dC bu s [])):=by
 have Zf:=h_ (fun u (h:lX bu s=some u)=>(show u.host.six.length=8 from oS h8 h));have Ud:=h_ (fun W (hb:Below w.heap.size w W)=>Nb bu bv s W h8 ((hbv.below hb).more hb.size) hbs hs (hE.below hb));have H8:=h_ h8;obtain⟨z,hz⟩:=az (bs s);rw[<-hz]at Ud ⊢;obtain⟨it,hit⟩:=az (dC bu s []);rw[<-hit];unfold dC at hit;clear hz hs hE h8 hbv hbs;obtain⟨W2,hw2,k1,k2⟩:=a51 w bv bu;have K1:=h_ k1;have K2:=h_ k2;have HW2:=h_ hw2;clear k1 k2 hw2;cases hJ:lX bu s with
 |none =>
  have yo:=h_ (fun W hb=>(show bN prog 12 #[.agg (ai bv bu),.string z] W (.tuple #[.agg (ai aR U0),.bool false])from by have h:=Ud.out W hb;rw[hJ]at h;exact h));rw[hJ]at hit;have HIT:=h_ (show it=I0 from hit);clear hJ hit Zf Ud;go_enter func29,ntmps29
  go_upto_region 1 with(first
   |(refine aS rfl 41 rfl _ _ (CD _) ?_)
   |fail)
  rw[HW2.out]
  go_wp2_with (first
   |(refine j7 (by rfl) (.tmp 2) rfl _ bv bu H8.out rfl K1.out ?_)
   |(go_at_call 12;refine(yo.out _ K2.out.bL).mono ?_;rintro e w3 ⟨rfl,hb⟩;have I3:=h_ (K2.out.below hb);clear hb)
   |(refine aS rfl 30 rfl _ _ (ef _) ?_)
   |(refine fP rfl (.tmp 5) (.tmp 11) rfl aR U0 rfl rfl rfl rfl rfl ?_;intro w4 h4 hb;have H4:=h_ h4;have I4:=h_ (I3.out.below hb);clear h4 hb)
   |(refine a5M rfl (.tmp 4) (.tmp 15) rfl w (w.heap.size+1) I4.out rfl aR aR I0 rfl rfl rfl rfl rfl ?_;intro w5 i5 _;have I5:=h_ i5;clear i5)
   |fail)
  exact a5t (it:=I0) results29 rfl rfl I5.out ⟨aR,by rw[HIT.out],by rw[HIT.out];rfl,by rw[HIT.out];exact World.ownsRow_nil _ _ _ _,I5.out.bL⟩
 |some u =>
  have yo:=h_ (fun W hb=>(show Calls prog 12 #[.agg (ai bv bu),.string z] W fun e w'=>∃ pv,e=.returned (.tuple #[.agg (ai pv u),.bool true])∧w'.ownsRow W.heap.size 9 1 pv u.path.length (Strs u.path)∧Below W.heap.size W w' from by have h:=Ud.out W hb;rw[hJ]at h;exact h));rw[hJ]at hit;have HIT:=h_ (show it=⟨true,u,[]⟩from hit);have U8:=h_ (Zf.out u hJ);clear hJ hit Zf Ud;go_enter func29,ntmps29
  go_upto_region 1 with(first
   |(refine aS rfl 41 rfl _ _ (CD _) ?_)
   |fail)
  rw[HW2.out]
  go_wp2_with (first
   |(refine j7 (by rfl) (.tmp 2) rfl _ bv bu H8.out rfl K1.out ?_)
   |(go_at_call 12;refine(yo.out _ K2.out.bL).mono ?_;rintro e w3 ⟨pv,rfl,oo,hb⟩;have I3:=h_ (K2.out.below hb);have O3:=h_ oo;clear hb oo)
   |(refine aS rfl 30 rfl _ _ (ef _) ?_)
   |(refine fP rfl (.tmp 5) (.tmp 11) rfl pv u U8.out (bm O3.out) rfl rfl rfl ?_;intro w4 h4 hb;have H4:=h_ h4;have I4:=h_ (I3.out.below hb);have O4:=h_ (own_below' O3.out hb);clear h4 hb)
   |(refine j7 (by rfl) (.tmp 5) rfl _ pv u U8.out rfl H4.out ?_;refine jw rfl 41 #[(0,.const (.bool true)),(1,.tmp 16)] rfl (.agg (ce pv aR ⟨true,u,[]⟩)) #[(0,.bool true),(1,.agg (ai pv u))] (by simp only[nQ,dw,yl];rfl) (Yg pv u U8.out) ?_;refine a5M rfl (.tmp 4) (.tmp 17) rfl w (w.heap.size+1) I4.out rfl pv aR ⟨true,u,[]⟩ U8.out (bm O4.out) rfl rfl rfl ?_;intro w5 i5 t5;have I5:=h_ i5;have O5:=h_ (bh (t5.row O4.out K2.out.lt) K2.out.bL.size);clear i5 t5)
   |fail)
  exact a5t (it:=⟨true,u,[]⟩) results29 U8.out rfl I5.out ⟨pv,by rw[HIT.out],by rw[HIT.out];exact U8.out,by rw[HIT.out];exact O5.out,I5.out.bL⟩
end Go.Proofs.YtmndlfglgcioeaaGreatDoor
