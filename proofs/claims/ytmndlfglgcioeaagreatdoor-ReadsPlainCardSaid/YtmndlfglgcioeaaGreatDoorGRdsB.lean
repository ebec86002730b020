/- RdsB SrcZ RdsC RdsD: joined. -/
import Derived.Test.YtmndlfglgcioeaaGreatDoorGFloB
import Derived.Test.YtmndlfglgcioeaaGreatDoorGAthW
import Derived.Test.YtmndlfglgcioeaaGreatDoorGWlkY
set_option maxHeartbeats 40000000
namespace Go.Proofs.YtmndlfglgcioeaaGreatDoor
open Tryz
open Go.RowKit
set_option maxRecDepth 10000
abbrev I0:gG:=⟨false,U0,[]⟩
abbrev bN (pv wv:Value) (i:gG):Array Value:=(cV pv wv i).toArray
theorem GV:(prog.info? 41).map (fun i=>(i.zero,i.size,i.bytes))=some (some (.agg (bN aD aD I0)),25,240):=by kernel_rfl
theorem pm:(prog.info? 41).map (·.size)=some 25:=by kernel_rfl
theorem kz {pv wv:Value} {i:gG} (h:i.url.host.six.length=8):(cV pv wv i).length=25:=by simp[cV,gg h]
theorem oh {pv wv:Value} {i:gG} (h:i.url.host.six.length=8):(bN pv wv i).size=25:=by rw[km,kz h]
theorem L4 {pv wv:Value} {i:gG} (hp:pv.oneCell'=true) (hw:wv.oneCell'=true):∀ v∈cV pv wv i,v.oneCell'=true:=by
 intro v hv
 rcases aN.mp hv with rfl|hv
 ·rfl
 rcases bl.mp hv with hv|hv
 ·exact pP hp v hv
 obtain rfl:v=wv:=by simpa using hv
 exact hw
structure lY (W:World) (base:Nat) (p:(Value×Value)×gG):Prop where
 six:p.2.url.host.six.length=8
 path:W.ownsRow base 9 1 p.1.1 p.2.url.path.length (Strs p.2.url.path)
 words:W.ownsRow base 9 1 p.1.2 p.2.words.length (Strs p.2.words)
abbrev Xh (p:(Value×Value)×gG):List Value:=cV p.1.1 p.1.2 p.2
def dU (W:World) (base:Nat) (v:Value) (l:List gG):Prop:=∃ ps:List ((Value×Value)×gG),ps.map (·.2)=l∧W.ownsRow base 41 25 v ps.length (ps.flatMap Xh)∧∀ p∈ps,lY W base p
theorem fA {w:World} {base base' e s n:Nat} {v:Value} {xs:List Value} (h:w.ownsRow base e s v n xs) (hb:base'<=base):w.ownsRow base' e s v n xs:=by
 refine⟨h.1,?_⟩
 rcases h.2 with h0|⟨g,cap,cur,e1,hg,hr⟩
 ·exact .inl h0
 exact .inr ⟨g,cap,cur,e1,aq hb hg,hr⟩
theorem lY.below {W W':World} {base:Nat} {p:(Value×Value)×gG} (h:lY W base p) (hb:Below W.heap.size W W'):lY W' base p:=⟨h.six,own_below' h.path hb,own_below' h.words hb⟩
theorem lY.base {W:World} {base base':Nat} {p:(Value×Value)×gG} (h:lY W base p) (hb:base'<=base):lY W base' p:=⟨h.six,fA h.path hb,fA h.words hb⟩
theorem dU.nil (W:World) (base:Nat):dU W base (.slice none 0 0) []:=⟨[],rfl,World.ownsRow_nil _ _ _ _,fun p hp=>by cases hp⟩
theorem dU.below {W W':World} {base:Nat} {v:Value} {l:List gG} (c:dU W base v l) (h:Below W.heap.size W W'):dU W' base v l:=by
 obtain⟨ps,h1,h2,h3⟩:=c
 exact⟨ps,h1,own_below h2 h,fun p hp=>(h3 p hp).below h⟩
theorem dU.base {W:World} {base base':Nat} {v:Value} {l:List gG} (c:dU W base v l) (hb:base'<=base):dU W base' v l:=by
 obtain⟨ps,h1,h2,h3⟩:=c
 exact⟨ps,h1,fA h2 hb,fun p hp=>(h3 p hp).base hb⟩
theorem dU.len {W:World} {base:Nat} {v:Value} {l:List gG} (c:dU W base v l):∃ a cp,v=.slice a l.length cp:=by
 obtain⟨ps,rfl,h2,_⟩:=c
 rw[aj]
 rcases h2.2 with⟨rfl,h0⟩|⟨g,cap,cur,rfl,_⟩
 ·exact⟨none,0,by rw[h0]⟩
 exact⟨_,_,rfl⟩
theorem dU.fk {W W':World} {base:Nat} {v:Value} {l:List gG} {J:Nat->Prop} (c:dU W base v l) (h:Fk J W W') (hn:∀ g,base<=g->g<W.heap.size->¬ J g):dU W' base v l:=by
 obtain⟨ps,h1,h2,h3⟩:=c
 exact⟨ps,h1,h.tT h2 hn,fun p hp=>⟨(h3 p hp).six,h.tT (h3 p hp).path hn,h.tT (h3 p hp).words hn⟩⟩
theorem dU.items {W:World} {base:Nat} {v:Value} {l:List gG} (c:dU W base v l) (hok:∀ i∈l,sf i.url):Items W.heap.size W v l:=by
 obtain⟨ps,rfl,h2,h3⟩:=c
 rcases h2.2 with⟨rfl,h0⟩|⟨g,cap,cur,rfl,hg,hh,hnc,hcm,hsz,htk⟩
 ·have:ps=[]:=am h0
  subst this
  exact⟨0,ae _,.inl ⟨rfl,none,rfl⟩⟩
 refine⟨cap,by rw[aj];exact hnc,.inr ⟨g,0,(bg.1 hh).1,by rw[aj],fun k hk=>?_⟩⟩
 have hk':k<ps.length:=by simpa using hk
 have hp:=h3 ps[k] (bJ hk')
 refine⟨ps[k].1.1,ps[k].1.2,fun j x hj=>?_,?_,?_,?_⟩
 ·rw[bQ]at hj
  have Vu:j<25:=by
   have:=(be.1 hj).1
   rw[kz hp.six]at this
   exact this
  have hf:=rV Xh 25 ps (fun p hp=>kz (h3 p hp).six) k j hk' Vu
  have:=h2.cells (g:=g) rfl (k*25+j) x (hf.trans hj)
  rw[addr_add,<-Nat.add_assoc]at this
  exact this
 ·exact hok _ (bJ hk)
 ·rw[bQ]
  exact Sl.bL (cI hp.path)
 rw[bQ]
 exact Sl.bL (cI hp.words)
section
variable {ops:Array Oper} {rest:List Oper} {o:Oper} {a:Act} {w:World} {Q:Exit->Act->World->Prop}
theorem YB (pv wv:Value) (i:gG) (h8:i.url.host.six.length=8) (w:World):(Instr.buildSlice 33 1 #[(0,.agg (bN pv wv i))]).run prog w=.ok (.slice (some ⟨w.heap.size,0,none⟩) 1 1) (w.alloc (.cells (bN pv wv i) 41)):=by
 obtain⟨rt,⟨aC,usr,ed,⟨hk,hn,hf,six⟩,a1,a2,a3,a4,a5,a6,a7,a8,a9⟩,ws⟩:=i
 simp only at h8
 obtain⟨a,b,c,d,e,f,g,i,rfl⟩:=eight h8
 kernel_rfl
theorem rQ (hg:o.guard=none) (y:Operand) (ho:o.op=.buildSlice 33 1 #[(0,y)]) (pv wv:Value) (i:gG) (h8:i.url.host.six.length=8) (hy:a.eval y=.agg (bN pv wv i))
  (h:wpList prog ops Q rest (a.put o.dst (.slice (some ⟨w.heap.size,0,none⟩) 1 1)) (w.alloc (.cells (bN pv wv i) 41))):wpList prog ops Q (o::rest) a w:=by
 refine wpList_plain hg fun K hK=>?_
 unfold Oper.wp execOp
 have e:(#[(0,y)]:Array (Nat×Operand)).map (fun(i,x)=>(i,a.eval x))=#[(0,.agg (bN pv wv i))]:=by simp[hy]
 simp only[ho,Sem.run_bind,Sem.run_pure,Result.andThen_ok,e,YB pv wv i h8]
 exact hK _ _ h
theorem dU.one (w:World) {base:Nat} {pv wv:Value} {i:gG} (hp:lY w base ((pv,wv),i)) (hb:base<=w.heap.size):dU (w.alloc (.cells (bN pv wv i) 41)) base (.slice (some ⟨w.heap.size,0,none⟩) 1 1) [i]:=by
 have b0:Below w.heap.size w (w.alloc (.cells (bN pv wv i) 41)):=(Below.refl _ _).alloc (ae _) _
 refine⟨[((pv,wv),i)],rfl,?_,?_⟩
 ·have hfm:[((pv,wv),i)].flatMap Xh=cV pv wv i:=by simp
  rw[hfm]
  refine⟨by simp[kz hp.six],.inr ⟨w.heap.size,1,bN pv wv i,rfl,hb,heap_alloc_new w _,ae _,by decide,by rw[oh hp.six],by show(cV pv wv i).take (1*25)=_;exact aI (by rw[kz hp.six];exact ae _)⟩⟩
 intro p h
 obtain rfl:p=((pv,wv),i):=by simpa using h
 exact hp.below b0
theorem a0m (hgd:o.guard=none) (s x:Operand) (ho:o.op=.call {callee:=.builtin .append,args:=#[s,x],argTypes:=#[33,33]})
  (base:Nat) {v pv wv:Value} {l:List gG} {c:gG} (hs:a.eval s=v) (hown:dU w base v l) (hw:lY w base ((pv,wv),c)) (hx:a.eval x=.slice (some ⟨w.heap.size,0,none⟩) 1 1)
  (h63:l.length+1<=1000000000) (hbase:base<=w.heap.size)
  (h:∀ v' w',dU w' base v' (l++[c])->Below base w w'->wpList prog ops Q rest (a.put o.dst v') w') :
  wpList prog ops Q (o::rest) a (w.alloc (.cells (bN pv wv c) 41)):=by
 obtain⟨i,hi,hz,hz1,hz2⟩:=info_parts GV
 obtain⟨ps,rfl,h2,h3⟩:=hown
 rw[aj]at h63
 have hb0:Below w.heap.size w (w.alloc (.cells (bN pv wv c) 41)):=(Below.refl _ _).alloc (ae _) _
 refine wpList_append_own_at _ hgd s x _ ho base 41 i _ 25 240 underlying33 hi hz hz1 hz2 (by rfl) (by decide) v ps.length _ hs (h2.alloc _) ⟨w.heap.size,0,none⟩ 1 1 (cV pv wv c) hx (by rw[kz hw.six]) ?_ (L4 (aS hw.path) (aS hw.words)) (by unfold maxLen;omega) (by omega) (aq hbase hb0.size) ?_
 ·intro j u hj
  rw[addr_add,bk]
  have hj2:(bN pv wv c)[j]? = some u:=by rw[bY];exact hj
  rw[World.cell?_alloc_mark]
  exact hj2
 intro v' w' ho' hg _ _
 have hkeep:∀ {u:Value} {ws:List Bytes},w.ownsRow base 9 1 u ws.length (Strs ws)->w'.ownsRow base 9 1 u ws.length (Strs ws):=by
  intro u ws hu
  have hu1:=own_below' hu hb0
  refine⟨hu1.1,?_⟩
  rcases hu1.2 with h0|⟨g,cap,cur,e1,hgb,hh,hr⟩
  ·exact .inl h0
  refine .inr ⟨g,cap,cur,e1,hgb,(hg.block g (bg.1 hh).1 fun e=>?_).trans hh,hr⟩
  exact Nt hu1 (h2.alloc (.cells (bN pv wv c) 41)) (by decide) g (by rw[e1];rfl) e.symm
 refine h v' w' ⟨ps++[((pv,wv),c)],by simp,?_,?_⟩ ?_
 ·rw[af,dP]
  simpa using ho'
 ·intro p hp
  rcases bl.mp hp with hp|hp
  ·exact⟨(h3 p hp).six,hkeep (h3 p hp).path,hkeep (h3 p hp).words⟩
  obtain rfl:p=((pv,wv),c):=by simpa using hp
  exact⟨hw.six,hkeep hw.path,hkeep hw.words⟩
 exact((hb0.mono hbase)).grown hg (aq hbase hb0.size) (fun k hk=>(h2.lt k hk).1)
end

theorem Kt {wv:Value} {c:dm} (h:wv.oneCell'=true):(aY wv c).all (·.oneCell')=true:=all_oneCell_toArray (Ew h)
def SpP (l:List dm) (w:World):Ending->World->Prop:=fun e w'=>∃ v,e=.returned v∧jf w' w.heap.size v l∧Below w.heap.size w w'
theorem wW:∀ (k:Nat) (s:Bytes),(j0 k s).1.length+(j0 k s).2.length<=s.length∧∀ x∈(j0 k s).1,x.length<=s.length
 |0,s=>⟨by show 0+s.length<=_;omega,fun x h=>by cases h⟩
 |k+1,s=>by
  have hd:=jo iE s
  rw[j0]
  split
  ·exact⟨by show 0+(s.dropWhile iE).length<=_;omega,fun x h=>by cases h⟩
  next hz =>
  have hw:=kH (s.dropWhile iE) false
  have ih:=wW k ((s.dropWhile iE).drop (fM false (s.dropWhile iE)))
  rw[ai]at ih
  refine⟨?_,?_⟩
  ·simp only[ag]
   have:=ih.1
   omega
  intro x hx
  rcases aN.mp hx with rfl|hx
  ·rw[aA];omega
  have:=ih.2 x hx;omega
theorem Fy {s:Bytes} {ws:List Bytes} {rest:Bytes} (h:jM s=(ws,rest)):ws.length<=s.length∧∀ x∈ws,x.length<=s.length:=by
 have:=wW s.length s
 unfold jM at h
 rw[h]at this
 exact⟨by have:=this.1;simp only at this;omega,this.2⟩
theorem Fw (p:UInt8->Bool):∀ l:Bytes,l.take (l.takeWhile p).length=l.takeWhile p
 | []=>rfl
 |c::r=>by
  cases h:p c with
  |true=>rw[bo h,ag,ex,Fw p r]
  |false=>rw[bd (by rw[h];simp)];rfl
theorem zo:lF []=some C0:=rfl
theorem pL (l:Bytes) (w:World) (hl:l.length<=1024000000) (hE:Env w):Calls prog 13 #[.string (bs l)] w (SpP (nz l) w):=by
 obtain⟨N,hN⟩:=ap (l.length)
 have HN:=h_ hN
 have HE:=h_ hE
 obtain⟨t,ht⟩:=ap (bs l)
 have LP:t.size=N:=by rw[ht,aB,hN]
 rw[<-hN]at hl
 rw[<-ht]
 have HT:=h_ ht
 obtain⟨R,hR⟩:=ap (nz l)
 rw[<-hR]
 have HR:=h_ hR
 clear hN hE ht hR
 go_enter func13,ntmps13
 go_upto_region 2 with fail
 have Xk:=h_ (CB.new w 9 #[.string t])
 have b1:=(Below.refl w.heap.size w).alloc (ae _) (.cells #[.string t] 9)
 obtain⟨B,hB⟩:=ap (w.heap.size)
 obtain⟨w1,hw1⟩:=ap (w.alloc (.cells #[.string t] 9))
 rw[<-hw1]at Xk b1 ⊢
 rw[<-hB]at Xk ⊢
 clear hw1
 go_upto_region 3 with fail
 have CA2:=h_ (CB.new w1 3 #[.int .i64 0])
 have b2:=(Below.refl w1.heap.size w1).alloc (ae _) (.cells #[.int .i64 0] 3)
 obtain⟨A,hA⟩:=ap (w1.heap.size)
 obtain⟨w2,hw2⟩:=ap (w1.alloc (.cells #[.int .i64 0] 3))
 rw[<-hw2]at CA2 b2 ⊢
 rw[<-hA]at CA2 ⊢
 clear hw2
 have CB2:=h_ (Xk.out.keep b2)
 have Ru:=h_ (b1.trans (b2.mono b1.size))
 have j5:=h_ (show A<w2.heap.size∧B<w2.heap.size∧w.heap.size<=A∧B≠A from by
  have h1:=CA2.out.lt
  have h2:=CB2.out.lt
  have h3:=Xk.out.lt
  have h4:=b1.size
  omega)
 clear hA hB b1 b2 Xk
 go_wp2_with fail
 go_loopg [3] (N+1) (fun gf lv wr=>∃ (j:Nat) (acc:List dm),j<=N∧N-j<gf∧acc.length<=j∧Hid (R=acc++nz (l.drop j))∧Hid (jf wr w2.heap.size lv acc)∧Hid (CB wr A 3 #[.int .i64 (j:Int)])∧Hid (CB wr B 9 #[.string t])∧Hid (Below w.heap.size w wr)∧Hid (w2.heap.size<=wr.heap.size))
 case atStart=>exact⟨0,[],aO _,by omega,ae _,by rw[HR.out];rfl,jf.nil _ _,CA2.out,CB2.out,Ru.out,ae _⟩
 case round =>
  obtain⟨j,acc,Zw,hf,hal,HW,HC,HA,HB,nB,e7⟩:=hrel
  obtain⟨g',rfl⟩:∃ g',gk=g'+1:=⟨gk-1,by omega⟩
  have hll:l.length<=1024000000:=by rw[<-HN.out];exact hl
  have hjl:j<=l.length:=by rw[<-HN.out];exact Zw
  have hBb:∀ W,CB W B 9 #[.string t]->CB W B 9 #[.string (bs l)]:=fun W h=>by rw[<-HT.out];exact h
  have hBt:∀ W,CB W B 9 #[.string (bs l)]->CB W B 9 #[.string t]:=fun W h=>by rw[HT.out];exact h
  have hs1:=pK Ut l j A B false wr hll hjl HA.out (hBb _ HB.out) (fun b h=>by cases h) (by simp) (by simp) j5.out.2.2.2
  rw[rM]at hs1
  obtain⟨j1,hj1⟩:=ap (j+((l.drop j).takeWhile fP).length)
  have P1:j1<=l.length:=by
   have:=ut fP (l.drop j)
   rw[ai]at this
   omega
  have hd1:l.drop j1=(l.drop j).dropWhile fP:=by rw[hj1,<-List.drop_drop,r5]
  rw[<-hj1]at hs1
  have hsr:=Ws (l.drop j)
  rw[<-hd1]at hsr
  have XK:=h_ hs1
  have hjj:j<=j1:=by omega
  clear hs1 hj1
  go_wp2_with fail
  refine XK.out.mono ?_
  rintro e w3 ⟨rfl,hA,hB,hF⟩
  have Tz:=h_ hA
  have HB3:=h_ (hBt _ hB)
  have FJ:=h_ (hF.below nB.out (fun i h=>h.elim (fun e=>by have:=j5.out;omega) (fun e=>by cases e)) nB.out.size)
  have Xv:=h_ (HC.out.fk hF (fun g h1 _ h2=>h2.elim (fun e=>by have:=j5.out;omega) (fun e=>by cases e)))
  have XQ:=h_ (aq e7.out hF.s)
  clear hA hB hF XK
  have c1:=Tz.out.ak (j:=0) (v:=.int .i64 (j1:Int)) rfl
  have c2:=HB3.out.ak (j:=0) (v:=.string t) rfl
  by_cases hend:j1=N
  ·have he:((j1:Int)==(N:Int))=true:=by rw[hend];simp
   have r9:=h_ (show R=acc by
    rw[HW.out,hsr,if_pos (bf (by rw[<-HN.out,hend];exact ae _))]
    simp)
   clear hsr hd1 hBb hBt hend
   go_wp2_with fail
   go_ret
   exact⟨_,rfl,by rw[r9.out];exact Xv.out.base Ru.out.size,FJ.out⟩
  have he:((j1:Int)==(N:Int))=false:=by rw[beq_eq_false_iff_ne];omega
  have a8R:j1<N:=by have:=HN.out;omega
  have hne:l.drop j1 ≠ []:=fun h=>by
   have:=congrArg List.length h
   rw[ai,aQ]at this
   have:=HN.out
   omega
  rw[if_neg hne]at hsr
  obtain⟨x0,r0,hx0,hx1⟩:=dw_head (p:=fP) (s:=l.drop j) (by rw[<-hd1];exact hne)
  rw[<-hd1]at hx0
  obtain⟨u,hu⟩:=ap ((l.drop j1).takeWhile ie)
  have hu1:1<=u.length:=by rw[hu,hx0,bo (SH hx1),ag];omega
  have Qc:u.length<=l.length-j1:=by
   have:=ut ie (l.drop j1)
   rw[ai]at this
   rw[hu];exact this
  obtain⟨j2,hj2⟩:=ap (j1+u.length)
  have a39:j2<=l.length:=by omega
  have hd2:l.drop j2=(l.drop j1).dropWhile ie:=by rw[hj2,hu,<-List.drop_drop,r5]
  have hstp:pM (l.drop j1)=if qg u=true then⟨iG u,[],l.drop j2⟩else⟨u,(jM (l.drop j2)).1,(jM (l.drop j2)).2.drop 1⟩:=by unfold pM;rw[<-hu,<-hd2]
  rw[hstp]at hsr
  have HS2:=h_ (show Calls prog 35 #[.func (.func 38) #[] #[],.pointer (some ⟨A,0,none⟩),.pointer (some ⟨B,0,none⟩)] w3 fun e w' =>
    e=.returned (S u)∧CB w' A 3 #[.int .i64 (j2:Int)]∧CB w' B 9 #[.string (bs l)]∧Fk (SkJ A none) w3 w' from by
   have h:=pK Uu l j1 A B false w3 hll P1 Tz.out (hBb _ HB3.out) (fun b h=>by cases h) (by simp) (by simp) j5.out.2.2.2
   rw[rM,<-hu,<-hj2]at h
   have e1:(l.drop j1).take u.length=u:=by rw[hu];exact Fw ie (l.drop j1)
   rw[e1]at h
   exact h)
  have VH:u.length<=1024000000:=by omega
  have hsf:=fun W=>VC u W VH
  have htr:=fun W=>Wv u W VH
  have DW:=h_ (fun W (a:CB W A 3 #[.int .i64 (j2:Int)]) (b:CB W B 9 #[.string (bs l)])=>sE l j2 A B W hll a39 a b j5.out.2.2.2)
  obtain⟨tu,htu⟩:=ap (bs u)
  have HTU:=h_ (show Value.string tu=S u by rw[htu])
  rw[show S u=Value.string tu by rw[htu]]at HS2
  rw[<-htu]at hsf htr
  have HTR:=h_ htr
  have HJ:=h_ (show j<j2∧j2<=N by have:=HN.out;omega)
  clear htr hstp hd2 Qc hx0 hx1 hu hne hd1 htu hj2 hu1 VH hend
  go_wp2_with fail
  refine HS2.out.mono ?_
  rintro e w4 ⟨rfl,hA,hB,hF⟩
  have WI:=h_ hA
  have a1U:=h_ hB
  have eZ:=h_ (hBt _ hB)
  have OG:=h_ (hF.below FJ.out (fun i h=>h.elim (fun e=>by have:=j5.out;omega) (fun e=>by cases e)) FJ.out.size)
  have FK:=h_ (Xv.out.fk hF (fun g h1 _ h2=>h2.elim (fun e=>by have:=j5.out;omega) (fun e=>by cases e)))
  have OV:=h_ (aq XQ.out hF.s)
  clear hA hB hF HS2 c1 c2 HC HA HB nB e7 Tz HB3 FJ Xv XQ
  cases hcm:qg u with
  |true =>
   rw[if_pos hcm]at hsr
   rw[hcm]at hsf
   have TU:=h_ hsf
   have yR:=h_ (show R=(acc++[{C0 with url:=iG u}])++nz (l.drop j2) by
    rw[HW.out,hsr]
    unfold xk
    simp only[zo]
    simp)
   obtain⟨tx,htx⟩:=ap (bs (iG u))
   have FR:=h_ (show Value.string tx=S (iG u) by rw[htx])
   rw[show S (iG u)=Value.string tx by rw[htx]]at HTR
   clear hsf hsr hcm htx HW
   go_wp2_with (first
    |(go_at_call 39;refine(TU.out _).mono ?_;rintro e w5 ⟨rfl,hw⟩;subst w5)
    |(go_at_call 40;refine(HTR.out _).mono ?_;rintro e w5 ⟨rfl,hb⟩;have fK:=h_ hb;clear hb)
    |fail)
   have hde:=oW [] aD w5 Sl.nil (by simp) (fun x h=>by cases h) ((HE.out.below OG.out).below fK.out)
   rw[zo]at hde
   obtain⟨c,hc⟩:=ap (C0)
   rw[<-hc]at hde yR
   have ID:=h_ (show Calls prog 42 #[aD] w5 fun e w'=>∃ wv,e=.returned (.tuple #[.agg (aY wv c),.bool true])∧w'.ownsRow w5.heap.size 9 1 wv c.words.length (Strs c.words)∧Below w5.heap.size w5 w' from hde)
   clear hde hc
   refine ID.out.mono ?_
   rintro e w6 ⟨wv,rfl,ho,hb⟩
   have HD6:=h_ (fK.out.trans (hb.mono fK.out.size))
   have yP:=h_ (aU ho (aq OV.out fK.out.size))
   clear ho hb
   have Xp:=h_ (WI.out.keep HD6.out)
   have jB:=h_ (eZ.out.keep HD6.out)
   have yI:=h_ (fJ OG.out HD6.out)
   have Xw:=h_ (FK.out.below HD6.out)
   have Bh:=h_ (aq OV.out HD6.out.size)
   have hj9:=HJ.out
   have Vm:acc.length+1<=1099511627776:=by omega
   go_wp2_with (first
    |(refine aE rfl 45 rfl _ _ (FX _) ?_)
    |(refine kf rfl 45 (.tmp 8) (.tmp 35) rfl (aY wv c) (aY aD C0) mb rfl (Kt (aS yP.out)) rfl rfl rfl ?_;intro w7 i7 hb;have I7:=h_ (show OB w6 w6.heap.size 45 (aY wv c) w7 from⟨i7.a,ae _,hb⟩);clear i7 hb)
    |(refine dJ rfl 9 (.tmp 39) (.tmp 38) rfl w6 w6.heap.size 45 (aY wv c) I7.out 0 (.string tx) rfl rfl (by rw[BI];omega) (by kernel_rfl) rfl (aY wv {c with url:=(iG u)}) (by rw[FR.out];rfl) ?_;intro w8 i8 _;have I8:=h_ i8;have HC8:=h_ (Xw.out.below i8.bq);have HO8:=h_ (own_below' yP.out i8.bq);have XX:=h_ (aq Bh.out i8.bq.size);clear i8)
    |(refine xU (by rfl) (.tmp 8) rfl w6.heap.size wv {c with url:=(iG u)} ⟨I8.out.a⟩ rfl ?_)
    |(refine Ev rfl (.tmp 41) rfl wv {c with url:=(iG u)} rfl ?_)
    |(at_builtin;(refine Ti rfl (.tmp 40) (.tmp 42) rfl w2.heap.size rfl HC8.out HO8.out rfl Vm XX.out ?_);intro v9 w9 Zk qZ;have HC9:=h_ Zk;have hH:=h_ qZ;clear Zk qZ)
    |fail)
   go_roundg g'
   case measure=>omega
   case rel =>
    have hlt:=j5.out
    have hsz:=Bh.out
    have AW:=I8.out.bq
    exact⟨j2,acc++[({c with url:=(iG u)}:dm)],by omega,by omega,by simp;omega,yR.out,HC9.out,⟨(hH.out.block A hlt.1).trans ((AW.block A (by omega)).trans Xp.out.a)⟩,⟨(hH.out.block B hlt.2.1).trans ((AW.block B (by omega)).trans jB.out.a)⟩,(yI.out.trans (AW.mono yI.out.size)).trans (hH.out.mono Ru.out.size),aq XX.out hH.out.size⟩
  |false =>
   rw[if_neg (by rw[hcm];simp)]at hsr
   rw[hcm]at hsf
   have TU:=h_ hsf
   obtain⟨ws,rest,hwd⟩:∃ a b,jM (l.drop j2)=(a,b):=⟨_,_,rfl⟩
   rw[hwd]at hsr DW
   have hwl:=Fy hwd
   clear hsf hcm
   go_wp2_with (first
    |(go_at_call 39;refine(TU.out _).mono ?_;rintro e w5 ⟨rfl,hw⟩;subst w5)
    |fail)
   refine(DW.out _ WI.out a1U.out).mono ?_
   rintro e w5 ⟨v5,k',rfl,hk1,hk2,hk3,ho5,hA,hB,hF⟩
   have OD:=h_ hA
   have fK:=h_ (hBt _ hB)
   have OH:=h_ (hF.below OG.out (fun i h=>by have:=j5.out;omega) OG.out.size)
   have HC5:=h_ (FK.out.fk hF (fun g h1 _ h2=>by have:=j5.out;omega))
   have TV:=h_ (aq OV.out hF.s)
   have uE:=h_ ho5
   have HWL:=h_ (show ws.length<=1024000000∧∀ x∈ws,x.length<=1024000000 from⟨by have:=hwl.1;rw[ai]at this;omega,fun x hx=>by have:=hwl.2 x hx;rw[ai]at this;omega⟩)
   clear hA hB hF ho5 DW hwl
   have c1:=OD.out.ak (j:=0) (v:=.int .i64 (k':Int)) rfl
   have c2:=fK.out.ak (j:=0) (v:=.string t) rfl
   have f1:=OD.out.s6 0
   change l.drop k'=rest at hk3
   by_cases hkN:k' < N
   case' pos =>
    have hlt:(k':Int)<(N:Int):=by omega
    obtain⟨j3,hj3⟩:=ap (k'+1)
    have hw3:IntKind.i64.wrap ((k':Int)+1)=(j3:Int):=by rw[IntWalk.i64_in _ (by omega)];omega
    have HR3:=h_ (show l.drop j3=rest.drop 1 by rw[<-hk3,oH,hj3])
    have HJ3:=h_ (show j<j3∧j3<=N by have:=HJ.out;omega)
    clear hk3 hj3
    go_wp2_with fail
    have hF:=Fk.set (J:=fun x=>x=A) OD.out 0 (.int .i64 (j3:Int)) rfl
    have hA:=OD.out.set 0 (.int .i64 (j3:Int))
    obtain⟨Ox,ZX⟩:=ap (w5.setCell ⟨A,0,none⟩ (.int .i64 (j3:Int)))
    rw[<-ZX]at hF hA ⊢
    have OE:=h_ (show CB Ox A 3 #[.int .i64 (j3:Int)]from hA)
    have TD:=h_ (hF.cb fK.out j5.out.2.2.2)
    have DT:=h_ (hF.below OH.out (fun i h=>by have:=j5.out;omega) OH.out.size)
    have TF:=h_ (HC5.out.fk hF (fun g h1 _ h2=>by have:=j5.out;omega))
    have D8:=h_ (aq TV.out hF.s)
    have XI:=h_ (hF.row uE.out (fun g h1 _ _ h2=>by have:=j5.out;have:=OV.out;omega))
    clear hF hA ZX c1 c2 f1
   case' neg =>
    have hlt:¬ (k':Int)<(N:Int):=by omega
    obtain⟨j3,hj3⟩:=ap (k')
    have HR3:=h_ (show l.drop j3=rest.drop 1 by
     have e1:rest=[]:=by rw[<-hk3];exact bf (by have:=HN.out;omega)
     rw[hj3,hk3,e1];rfl)
    have HJ3:=h_ (show j<j3∧j3<=N by have:=HJ.out;have:=HN.out;omega)
    have OE:=h_ (show CB w5 A 3 #[.int .i64 (j3:Int)] by rw[hj3];exact OD.out)
    clear hk3 hj3
    go_wp2_with fail
    obtain⟨Ox,ZX⟩:=ap (w5)
    rw[<-ZX]at OE fK OH HC5 TV uE ⊢
    have TD:=fK
    have DT:=OH
    have TF:=HC5
    have D8:=TV
    have XI:=uE
    clear ZX c1 c2 f1
   all_goals
    have hde:=oW ws v5 Ox (Sl.bL (cI XI.out)) HWL.out.1 HWL.out.2 (HE.out.below DT.out)
    cases hP:lF ws with
    |none =>
     rw[hP]at hde
     have yR:=h_ (show R=acc++nz (l.drop j3) by
      rw[HW.out,hsr]
      unfold xk
      simp only[hP]
      rw[HR3.out])
     have ID:=h_ (show Calls prog 42 #[v5] Ox fun e w'=>e=.returned (.tuple #[.agg (aY aD C0),.bool false])∧Below Ox.heap.size Ox w' from hde)
     clear hde hP hsr
     refine ID.out.mono ?_
     rintro e w6 ⟨rfl,hb⟩
     have Xp:=h_ (OE.out.keep hb)
     have jB:=h_ (TD.out.keep hb)
     have yI:=h_ (fJ DT.out hb)
     have Xw:=h_ (TF.out.below hb)
     have Bh:=h_ (aq D8.out hb.size)
     clear hb
     have hj9:=HJ3.out
     go_wp2_with (first
      |(refine aE rfl 45 rfl _ _ (FX _) ?_)
      |(refine kf rfl 45 (.tmp 8) (.tmp 35) rfl (aY aD C0) (aY aD C0) mb rfl (Kt rfl) rfl rfl rfl ?_;intro w7 i7 hb;have I7:=h_ hb;clear i7 hb)
      |fail)
     go_roundg g'
     case measure=>omega
     case rel =>
      have hlt:=j5.out
      have hsz:=Bh.out
      have AW:=I7.out
      exact⟨j3,acc,by omega,by omega,by omega,yR.out,Xw.out.below AW,⟨(AW.block A (by omega)).trans Xp.out.a⟩,⟨(AW.block B (by omega)).trans jB.out.a⟩,yI.out.trans (AW.mono yI.out.size),aq hsz AW.size⟩
    |some c =>
     rw[hP]at hde
     have yR:=h_ (show R=(acc++[{c with url:=u}])++nz (l.drop j3) by
      rw[HW.out,hsr]
      unfold xk
      simp only[hP]
      rw[HR3.out]
      simp)
     have ID:=h_ (show Calls prog 42 #[v5] Ox fun e w'=>∃ wv,e=.returned (.tuple #[.agg (aY wv c),.bool true])∧w'.ownsRow Ox.heap.size 9 1 wv c.words.length (Strs c.words)∧Below Ox.heap.size Ox w' from hde)
     clear hde hP hsr
     refine ID.out.mono ?_
     rintro e w6 ⟨wv,rfl,ho,hb⟩
     have Xp:=h_ (OE.out.keep hb)
     have jB:=h_ (TD.out.keep hb)
     have yI:=h_ (fJ DT.out hb)
     have Xw:=h_ (TF.out.below hb)
     have Bh:=h_ (aq D8.out hb.size)
     have yP:=h_ (aU ho D8.out)
     clear hb ho
     have hj9:=HJ3.out
     have Vm:acc.length+1<=1099511627776:=by omega
     go_wp2_with (first
      |(refine aE rfl 45 rfl _ _ (FX _) ?_)
      |(refine kf rfl 45 (.tmp 8) (.tmp 35) rfl (aY wv c) (aY aD C0) mb rfl (Kt (aS yP.out)) rfl rfl rfl ?_;intro w7 i7 hb;have I7:=h_ (show OB w6 w6.heap.size 45 (aY wv c) w7 from⟨i7.a,ae _,hb⟩);clear i7 hb)
      |(refine dJ rfl 9 (.tmp 39) (.tmp 38) rfl w6 w6.heap.size 45 (aY wv c) I7.out 0 (.string tu) rfl rfl (by rw[BI];omega) (by kernel_rfl) rfl (aY wv {c with url:=u}) (by rw[HTU.out];rfl) ?_;intro w8 i8 _;have I8:=h_ i8;have HC8:=h_ (Xw.out.below i8.bq);have HO8:=h_ (own_below' yP.out i8.bq);have XX:=h_ (aq Bh.out i8.bq.size);clear i8)
      |(refine xU (by rfl) (.tmp 8) rfl w6.heap.size wv {c with url:=u} ⟨I8.out.a⟩ rfl ?_)
      |(refine Ev rfl (.tmp 41) rfl wv {c with url:=u} rfl ?_)
      |(at_builtin;(refine Ti rfl (.tmp 40) (.tmp 42) rfl w2.heap.size rfl HC8.out HO8.out rfl Vm XX.out ?_);intro v9 w9 Zk qZ;have HC9:=h_ Zk;have hH:=h_ qZ;clear Zk qZ)
      |fail)
     go_roundg g'
     case measure=>omega
     case rel =>
      have hlt:=j5.out
      have hsz:=Bh.out
      have AW:=I8.out.bq
      exact⟨j3,acc++[({c with url:=u}:dm)],by omega,by omega,by simp;omega,yR.out,HC9.out,⟨(hH.out.block A hlt.1).trans ((AW.block A (by omega)).trans Xp.out.a)⟩,⟨(hH.out.block B hlt.2.1).trans ((AW.block B (by omega)).trans jB.out.a)⟩,(yI.out.trans (AW.mono yI.out.size)).trans (hH.out.mono Ru.out.size),aq XX.out hH.out.size⟩

theorem BT {ws:List Bytes} {c:dm} (h:lF ws=some c):c.words=ws:=by
 unfold lF at h
 split at h
 ·cases h
 split at h
 ·cases h
 cases h;rfl
theorem JT {q:Stp} {l:List dm} {c:dm} (h:c∈xk q l):(c.url=q.url∧c.words=q.words)∨c∈l:=by
 unfold xk at h
 split at h
 ·exact .inr h
 next c0 h0 =>
 rcases aN.mp h with rfl|h
 ·exact .inl ⟨rfl,(show c0.words=q.words from BT h0)⟩
 exact .inr h
theorem JS (q:Stp) (l:List dm):(xk q l).length<=l.length+1:=by
 unfold xk
 split
 ·exact fb _
 exact ae _
theorem Ip (u:Bytes):(iG u).length<=u.length:=by
 unfold iG
 rw[ns]
 have:=(ct (l:=u.reverse) fun x=>decide (x=44)).length_le
 rw[ns]at this
 exact this
theorem Ra (t:Bytes):(pM t).url.length<=t.length∧(pM t).words.length<=t.length:=by
 have h1:=ut ie t
 have h2:=jo ie t
 unfold pM
 split
 ·have:=Ip (t.takeWhile ie)
  exact⟨by show(iG _).length<=_;omega,aO _⟩
 have:=(Fy (s:=t.dropWhile ie) (ws:=(jM (t.dropWhile ie)).1) (rest:=(jM (t.dropWhile ie)).2) rfl).1
 exact⟨h1,by show(jM _).1.length<=_;omega⟩
theorem wL:∀ (k:Nat) (s:Bytes),(nP k s).length<=s.length∧∀ c∈nP k s,c.url.length<=s.length∧c.words.length<=s.length
 |0,s=>⟨aO _,fun c h=>by cases h⟩
 |k+1,s=>by
  rw[nP]
  split
  ·exact⟨aO _,fun c h=>by cases h⟩
  next hz =>
  have h1:=DK hz
  have h2:=Ra (s.dropWhile fP)
  have h3:=jo fP s
  have ih:=wL k (pM (s.dropWhile fP)).rest
  refine⟨?_,fun c h=>?_⟩
  ·have:=JS (pM (s.dropWhile fP)) (nP k (pM (s.dropWhile fP)).rest)
   omega
  rcases JT h with⟨e1,e2⟩|h
  ·rw[e1,e2];omega
  have:=ih.2 c h;omega
theorem yo (s:Bytes):(nz s).length<=s.length∧∀ c∈nz s,c.url.length<=s.length∧c.words.length<=s.length:=wL s.length s
theorem Dt {s:Bytes} {r:FV} (h:uU s=some r):r.url.length<=s.length:=by
 have hb:(bz s).length<=s.length:=jo _ _
 have hu:∀ t:Bytes,(uv t).length<=t.length:=by
  intro t
  cases t with
  |nil=>exact ae _
  |cons x r =>
   show(if x=34∨x=39 then r.takeWhile (· != x)else x::r).length<=_
   split
   ·have:=ut (· != x) r
    rw[ag];omega
   exact ae _
 have hn:∀ t:Bytes,(jy t).length<=t.length:=by
  intro t
  unfold jy
  split
  ·have h1:(bz (t.drop 3)).length<=(t.drop 3).length:=jo _ _
   rw[ai]at h1
   split
   ·exact ae _
   next c q e =>
   rw[e,ag]at h1
   split
   ·have h2:(bz q).length<=q.length:=jo _ _
    omega
   exact ae _
  exact ae _
 have hs:∀ t:Bytes,(t4 t).length<=t.length:=by
  intro t
  cases t with
  |nil=>exact ae _
  |cons c r =>
   show(if c=59∨c=44 then bz r else c::r).length<=_
   split
   ·have h2:(bz r).length<=r.length:=jo _ _
    rw[ag];omega
   exact ae _
 unfold uU Wi at h
 split at h
 ·cases h
 have h1:=jo kM (bz s)
 have h2:=jo pd ((bz s).dropWhile kM)
 unfold Wj at h
 split at h
 ·cases h;exact aO _
 next c t e =>
 split at h
 ·cases h
 split at h
 ·cases h;exact aO _
 cases h
 have h3:=hs (bz (((bz s).dropWhile kM).dropWhile pd))
 have h4:(bz (((bz s).dropWhile kM).dropWhile pd)).length<=_:=jo _ _
 have h5:=hn (t4 (bz (((bz s).dropWhile kM).dropWhile pd)))
 have h6:=hu (jy (t4 (bz (((bz s).dropWhile kM).dropWhile pd))))
 show(uv _).length<=_
 omega

theorem yY (w:World):(Instr.alloc 41 true (Value.tuple #[])).run prog w=.ok (.pointer (some ⟨w.heap.size,0,none⟩)) (w.alloc (.cells (bN aD aD I0) 41)):=by kernel_rfl
theorem YA:∀ w,(Instr.build 41 #[]).run prog w=.ok (.agg (bN aD aD I0)) w:=fun w=>by kernel_rfl
theorem Sx (pv:Value) (u:Url) (h8:u.host.six.length=8):∀ w,(Instr.build 41 #[(0,.bool true),(1,.agg (ah pv u))]).run prog w=.ok (.agg (bN pv aD ⟨true,u,[]⟩)) w:=by
 obtain⟨aC,usr,ed,⟨hk,hn,hf,six⟩,a1,a2,a3,a4,a5,a6,a7,a8,a9⟩:=u
 simp only at h8
 obtain⟨a,b,c,d,e,f,g,i,rfl⟩:=eight h8
 intro w
 kernel_rfl
section
variable {ops:Array Oper} {rest:List Oper} {o:Oper} {a:Act} {w:World} {Q:Exit->Act->World->Prop}
theorem a0n (hgd:o.guard=none) (x y:Operand) (ho:o.op=.store 41 x y) (w0:World) (b:Nat) {pv0 wv0:Value} {i0:gG} (i:OB w0 b 41 (bN pv0 wv0 i0) w) (h60:i0.url.host.six.length=8) (pv wv:Value) (it:gG) (h6:it.url.host.six.length=8)
  (hp:pv.oneCell'=true) (hw:wv.oneCell'=true) (hx:a.eval x=.pointer (some ⟨b,0,none⟩)) (hy:a.eval y=.agg (bN pv wv it))
  (K:∀ w',OB w0 b 41 (bN pv wv it) w'->Tn b w w'->wpList prog ops Q rest (a.put o.dst undef) w'):wpList prog ops Q (o::rest) a w :=
 rh hgd 41 x y ho w0 b 41 (bN pv0 wv0 i0) i 0 (cV pv wv it) hx hy (by rw[kz h6,oh h60];exact bA rfl) (by rw[kz h6];exact pm) (L4 hp hw) (bN pv wv it) (ll _ _ (by rw[kz h60,kz h6])) K
end
theorem Z6 {f:Func} {k:Nat} (hf:f.results=#[.cell k 41]) {tmps:Array Value} {w0 w2:World} {b:Nat} {pv wv:Value} {it:gG} {Post:Ending->World->Prop} (h8:it.url.host.six.length=8) (hk:tmps.getD k undef=.pointer (some ⟨b,0,none⟩))
  (i:OB w0 b 41 (bN pv wv it) w2) (hP:Post (.returned (.agg (bN pv wv it))) w2) :
  bodyPost prog f Post Exit.ret {tmps:=tmps,defers:=[]} w2:=by
 have h2':tmps[k]?.getD undef=.pointer (some ⟨b,0,none⟩):=by simpa using hk
 have hl:=i.load (P:=prog) 41 _ underlying41 rfl (by rw[oh h8];exact pm)
 refine bodyPost_ret (v:=.agg (bN pv wv it)) ?_ rfl hP
 simp[results,hf,asAddr,h2',hl]
theorem a0E (w:World) (bv:Value) (u:Url):∃ W,(w.alloc (.cells (ah bv u) 30)).alloc (.cells (bN aD aD I0) 41)=W∧CB W w.heap.size 30 (ah bv u)∧OB w (w.heap.size+1) 41 (bN aD aD I0) W:=by
 have hx:=CB.new w 30 (ah bv u)
 have hb:=(Below.refl w.heap.size w).alloc (ae _) (.cells (ah bv u) 30)
 obtain⟨w1,hw1⟩:=ap (w.alloc (.cells (ah bv u) 30))
 have hz1:w1.heap.size=w.heap.size+1:=by rw[hw1];simp
 rw[<-hw1]at hx hb ⊢
 have hy:=CB.new w1 41 (bN aD aD I0)
 have hb2:=(Below.refl w1.heap.size w1).alloc (ae _) (.cells (bN aD aD I0) 41)
 rw[hz1]at hy
 exact⟨_,rfl,hx.keep hb2,OB.of hy (fb _) (fJ hb hb2)⟩
def XU (w:World) (it:gG):Ending->World->Prop:=fun e w'=>∃ pv,e=.returned (.agg (bN pv aD it))∧it.url.host.six.length=8∧w'.ownsRow w.heap.size 9 1 pv it.url.path.length (Strs it.url.path)∧Below w.heap.size w w'
theorem mt (bu:Url) (bv:Value) (s:Bytes) (w:World) (h8:bu.host.six.length=8) (hbv:Sl w.heap.size w bv (bu.path.map S)) (hbs:Bs bu.path) (hs:s.length<=1048576) (hE:Env w) :
  Calls prog 29 #[.agg (ah bv bu),.string (bs s)] w (XU w (dG bu s [])):=by
 have TI:=h_ (fun u (h:mC bu s=some u)=>(show u.host.six.length=8 from mx h8 h))
 have yM:=h_ (fun W (hb:Below w.heap.size w W)=>vY bu bv s W h8 ((hbv.below hb).more hb.size) hbs hs (hE.below hb))
 have H8:=h_ h8
 obtain⟨z,hz⟩:=ap (bs s)
 rw[<-hz]at yM ⊢
 obtain⟨it,hit⟩:=ap (dG bu s [])
 rw[<-hit]
 unfold dG at hit
 clear hz hs hE h8 hbv hbs
 obtain⟨W2,hw2,k1,k2⟩:=a0E w bv bu
 have K1:=h_ k1;have K2:=h_ k2;have HW2:=h_ hw2
 clear k1 k2 hw2
 cases hJ:mC bu s with
 |none =>
  have rI:=h_ (fun W hb=>(show Calls prog 12 #[.agg (ah bv bu),.string z] W fun e w'=>e=.returned (.tuple #[.agg (ah aD U0),.bool false])∧Below W.heap.size W w' from by have h:=yM.out W hb;rw[hJ]at h;exact h))
  rw[hJ]at hit
  have HIT:=h_ (show it=I0 from hit)
  clear hJ hit TI yM
  go_enter func29,ntmps29
  go_upto_region 1 with(first
   |(refine aE rfl 41 rfl _ _ (yY _) ?_)
   |fail)
  rw[HW2.out]
  go_wp2_with (first
   |(refine dB (by rfl) (.tmp 2) rfl _ bv bu H8.out rfl K1.out ?_)
   |(go_at_call 12;refine(rI.out _ K2.out.bq).mono ?_;rintro e w3 ⟨rfl,hb⟩;have I3:=h_ (K2.out.below hb);clear hb)
   |(refine aE rfl 30 rfl _ _ (cD _) ?_)
   |(refine cN rfl (.tmp 5) (.tmp 11) rfl aD U0 rfl rfl rfl rfl rfl ?_;intro w4 h4 hb;have H4:=h_ h4;have I4:=h_ (I3.out.below hb);clear h4 hb)
   |(refine bG rfl 41 #[] rfl (.agg (bN aD aD I0)) #[] rfl YA ?_)
   |(refine a0n rfl (.tmp 4) (.tmp 15) rfl w (w.heap.size+1) I4.out rfl aD aD I0 rfl rfl rfl rfl rfl ?_;intro w5 i5 _;have I5:=h_ i5;clear i5)
   |fail)
  exact Z6 (it:=I0) results29 rfl rfl I5.out ⟨aD,by rw[HIT.out],by rw[HIT.out];rfl,by rw[HIT.out];exact World.ownsRow_nil _ _ _ _,I5.out.bq⟩
 |some u =>
  have rI:=h_ (fun W hb=>(show Calls prog 12 #[.agg (ah bv bu),.string z] W fun e w'=>∃ pv,e=.returned (.tuple #[.agg (ah pv u),.bool true])∧w'.ownsRow W.heap.size 9 1 pv u.path.length (Strs u.path)∧Below W.heap.size W w' from by have h:=yM.out W hb;rw[hJ]at h;exact h))
  rw[hJ]at hit
  have HIT:=h_ (show it=⟨true,u,[]⟩from hit)
  have U8:=h_ (TI.out u hJ)
  clear hJ hit TI yM
  go_enter func29,ntmps29
  go_upto_region 1 with(first
   |(refine aE rfl 41 rfl _ _ (yY _) ?_)
   |fail)
  rw[HW2.out]
  go_wp2_with (first
   |(refine dB (by rfl) (.tmp 2) rfl _ bv bu H8.out rfl K1.out ?_)
   |(go_at_call 12;refine(rI.out _ K2.out.bq).mono ?_;rintro e w3 ⟨pv,rfl,oo,hb⟩;have I3:=h_ (K2.out.below hb);have O3:=h_ oo;clear hb oo)
   |(refine aE rfl 30 rfl _ _ (cD _) ?_)
   |(refine cN rfl (.tmp 5) (.tmp 11) rfl pv u U8.out (aS O3.out) rfl rfl rfl ?_;intro w4 h4 hb;have H4:=h_ h4;have I4:=h_ (I3.out.below hb);have O4:=h_ (own_below' O3.out hb);clear h4 hb)
   |(refine dB (by rfl) (.tmp 5) rfl _ pv u U8.out rfl H4.out ?_;refine bG rfl 41 #[(0,.const (.bool true)),(1,.tmp 16)] rfl (.agg (bN pv aD ⟨true,u,[]⟩)) #[(0,.bool true),(1,.agg (ah pv u))] (by simp only[dj,cO,eC];rfl) (Sx pv u U8.out) ?_;refine a0n rfl (.tmp 4) (.tmp 17) rfl w (w.heap.size+1) I4.out rfl pv aD ⟨true,u,[]⟩ U8.out (aS O4.out) rfl rfl rfl ?_;intro w5 i5 t5;have I5:=h_ i5;have O5:=h_ (aU (t5.row O4.out K2.out.lt) K2.out.bq.size);clear i5 t5)
   |fail)
  exact Z6 (it:=⟨true,u,[]⟩) results29 U8.out rfl I5.out ⟨pv,by rw[HIT.out],by rw[HIT.out];exact U8.out,by rw[HIT.out];exact O5.out,I5.out.bq⟩
end Go.Proofs.YtmndlfglgcioeaaGreatDoor
