/- SixF SixG SixU SixV HstB HplA HstC HstD HstE HplC AthA AthB AthD Rsm: joined. -/
import Derived.Recover
import Derived.Laws.CopyOwn
import Derived.Laws.Pointers
import Derived.Test.YtmndlfglgcioeaaGreatDoorGSixA
import Derived.Test.YtmndlfglgcioeaaGreatDoorGPctA
import Derived.Test.YtmndlfglgcioeaaGreatDoorGNumB
import Derived.Test.YtmndlfglgcioeaaGreatDoorGIdnI
import Derived.Test.YtmndlfglgcioeaaGreatDoorGIdnG
import Derived.Test.YtmndlfglgcioeaaGreatDoorGTextA
import Derived.Test.YtmndlfglgcioeaaGreatDoorGPunL
import Derived.Deep.QuietTactic
import Derived.BigQuiet
set_option maxHeartbeats 40000000
namespace Go.Proofs.YtmndlfglgcioeaaGreatDoor
open Tryz
open Go.RowKit
set_option maxRecDepth 10000
structure Two (w:World) (b:Nat) (cs:List Int) (q:Bool) (wr:World):Prop where
 a:wr.heap[b]? = some (.cells (cH cs).toArray 25 (0,0))
 ok:wr.heap[b+1]? = some (.cells #[.bool q] 4 (0,0))
 len:cs.length=8
 bq:Below w.heap.size w wr
theorem Two.lt {w:World} {b:Nat} {cs:List Int} {q:Bool} {wr:World} (h:Two w b cs q wr):b+1<wr.heap.size:=(bg.1 h.ok).1
theorem Two.below {w:World} {b:Nat} {cs:List Int} {q:Bool} {wr w2:World} (h:Two w b cs q wr) (hb:w.heap.size<=b) (h2:Below wr.heap.size wr w2):Two w b cs q w2:=by
 have:=h.lt
 exact⟨(h2.block b (by omega)).trans h.a,(h2.block (b+1) (by omega)).trans h.ok,h.len,h.bq.trans (h2.mono (by omega))⟩
theorem Two.row {w:World} {b:Nat} {cs ds:List Int} {q:Bool} {wr:World} (h:Two w b cs q wr) (hb:w.heap.size<=b) (hd:ds.length=8):Two w b ds q (wr.setRow b (cH ds).toArray) :=
 ⟨setRow_heap wr b _ _ _ _ h.a,(setRow_other wr b (b+1) _ (by omega)).trans h.ok,hd,below_setRow h.bq hb _⟩
theorem Two.set {w:World} {b:Nat} {cs:List Int} {q:Bool} {wr:World} (h:Two w b cs q wr) (hb:w.heap.size<=b) (p:Bool):Two w b cs p (wr.setCell ⟨b+1,0,none⟩ (.bool p)):=by
 have e:=setCell_eq_setRow wr (b+1) 0 _ _ _ (.bool p) h.ok
 rw[e]
 exact⟨(setRow_other wr (b+1) b _ (by omega)).trans h.a,setRow_heap wr (b+1) _ _ _ _ h.ok,h.len,below_setRow h.bq (by omega) _⟩
theorem Two.cell {w:World} {b:Nat} {cs:List Int} {q:Bool} {wr:World} (h:Two w b cs q wr):wr.cell? ⟨b+1,0,none⟩=some (.bool q)∧wr.frozen? ⟨b+1,0,none⟩=false:=by
 constructor
 ·simp[World.cell?,h.ok]
 simp[World.frozen?,h.ok]
def Z8:List Int:=[0,0,0,0,0,0,0,0]
theorem oO (w:World):(Instr.alloc 25 true (Value.tuple #[])).run prog w=.ok (.pointer (some ⟨w.heap.size,0,none⟩)) (w.alloc (.cells (cH Z8).toArray 25)):=by kernel_rfl
theorem Uy:∀ w,(Instr.build 25 #[]).run prog w=.ok (.agg (cH Z8).toArray) w:=fun w=>by kernel_rfl
theorem mH:(prog.info? 25).map (·.size)=some 8:=by kernel_rfl
theorem Df (cs:List Int):(cH cs).toArray.all (·.oneCell')=true:=by
 rw[Array.all_eq_true]
 intro i hi
 simp[Value.oneCell']
theorem Ir (w:World):Two w w.heap.size Z8 false ((w.alloc (.cells (cH Z8).toArray 25)).alloc (.cells #[.bool false] 4)):=by
 refine⟨?_,?_,rfl,((Below.refl _ w).alloc (ae _) _).alloc (by simp) _⟩
 ·rw[Below.heap_alloc _ _ _ (by simp),heap_alloc_new]
 have:=heap_alloc_new (w.alloc (.cells (cH Z8).toArray 25)) (.cells #[.bool false] 4)
 simpa using this
theorem BK (w0:World) (b:Nat) (cs:List Int) (q:Bool) (u:TypeId) (pv:Value) (older:List PanicEntry) (w:World) (h:Two w0 b cs q w) (hb:w0.heap.size<=b) :
  CallsD prog 206 #[.pointer (some ⟨b,0,none⟩),.pointer (some ⟨b+1,0,none⟩)] (.panicking ({v:=.iface u pv,recovered:=false}::older)) w fun e u' w' =>
   e=.returned (.tuple #[])∧u'=.panicking ({v:=.iface u pv,recovered:=true}::older)∧Two w0 b Z8 false w':=by
 refine callsD_of_wpS func206 rfl fun c₀ cs hu=>?_
 apply wpS_seq
 apply wpS_region
 simp[wpOpsS,go_sem,recoverD,hu,ntmps206,Exit.thenS]
 refine wpS_cond (t:=true) (by simp[Act.eval,Array.replicate]) ?_
 simp only[if_true]
 refine wpS_of_wp ?_
 have HT:=h_ h;clear h
 go_wp2_with (first
  |(refine bG rfl 25 #[] rfl (.agg (cH Z8).toArray) #[] rfl Uy ?_)
  | (refine wpList_store_row rfl 25 (.tmp 0) (.tmp 4) rfl b (cH Z8).toArray rfl rfl _ _ HT.out.a (by rw[mH];rfl) (by simp[HT.out.len,Z8]) (Df _) ?_
     have ht2:=HT.out.row (ds:=Z8) hb rfl
     revert ht2
     generalize w.setRow b (cH Z8).toArray=w2
     intro ht2
     obtain⟨hc2,hz2⟩:=ht2.cell
     have HT2:=h_ ht2;clear ht2)
  |fail)
 simp only[bodyPostS]
 exact⟨trivial,_,rfl,.tuple #[],by simp[results,results206],rfl,rfl,HT2.out.set hb false⟩
theorem BJ (p r:Addr) (w:World) :
  CallsD prog 206 #[.pointer (some p),.pointer (some r)] .returning w fun e u' w'=>e=.returned (.tuple #[])∧u'=.returning∧w'=w:=by
 refine callsD_of_wpS func206 rfl fun c₀ cs hu=>?_
 apply wpS_seq
 apply wpS_region
 simp[wpOpsS,go_sem,recoverD,hu,ntmps206,Exit.thenS]
 refine wpS_cond (t:=false) (by simp[Act.eval,Array.replicate]) ?_
 simp only[eM,if_false]
 refine wpS_of_wp (wp_skip ?_)
 cases c₀
 simp_all[bodyPostS,results,results206]

abbrev Wq (o:Option (List Int)):Ending:=.returned (.tuple #[.agg (cH (o.getD Z8)).toArray,.bool o.isSome])
theorem xu {ops:Array Oper} {rest:List Oper} {o:Oper} {a:Act} {w:World} {Q:Exit->Act->World->Prop} (hgd:o.guard=none) (d s:Operand) (dT sT:TypeId)
  (ho:o.op=.call {callee:=.builtin .copy,args:=#[d,s],argTypes:=#[dT,sT]}) (elem:TypeId) (hu:prog.underlying dT=some (.slice elem)) (hsz:(prog.info? elem).map (·.size)=some 1)
  (w0:World) (g:Nat) (cs:List Int) (q:Bool) (hT:Two w0 g cs q w) (hg:w0.heap.size<=g) (off dLen dCap:Nat) (hd:a.eval d=.slice (some ⟨g,off,none⟩) dLen dCap)
  (sp:Option Addr) (sLen sCap:Nat) (hs:a.eval s=.slice sp sLen sCap) (l:List Int) (hl:l.length=sLen) (B:Nat) (hsrc:Sl B w (.slice sp sLen sCap) (cH l)) (hfit:off+sLen<=8) (hdl:sLen<=dLen)
  (h:∀ w',Two w0 g (splice cs off l) q w'->w.grownBy w' (some g)->wpList prog ops Q rest (a.put o.dst (goInt sLen)) w'):wpList prog ops Q (o::rest) a w:=by
 by_cases h0:l=[]
 ·subst h0
  obtain rfl:sLen=0:=hl.symm
  refine wpList_copy_nothing hgd d s dT sT ho elem hu hsz _ _ _ _ _ _ hd hs (Nat.zero_min _) ?_
  have e:splice cs off []=cs:=by simp[splice]
  exact h w (by rw[e];exact hT) ⟨rfl,rfl,rfl,ae _,fun _ _ _=>rfl⟩
 have hn0:sLen≠0:=fun e=>h0 (am (by omega))
 obtain⟨c',_,_,hx⟩:=hsrc
 rcases hx with⟨hx,_⟩|⟨b',o',_,hv,hat⟩
 ·exact absurd (by simpa using hx) h0
 injection hv with e1 e2 e3
 subst e1
 have hcl:(cH cs).toArray.size=8:=by simp[hT.len]
 have hfin:=fun h':_=>h (w.setRow g (cH (splice cs off l)).toArray) (hT.row hg (by rw[length_splice _ _ _ (by rw[hT.len];omega)];exact hT.len)) h'
 refine wpList_copy_own hgd d s dT sT ho elem hu hsz g off dLen dCap ⟨b',o',none⟩ sLen sCap hd hs (cH cs).toArray _ hT.a (cH l) (by rw[aj,hl];exact(uM hdl).symm) ?_ (by rw[aj,hcl];omega) ?_ ?_
 ·intro j v hj
  have hjl:j<(cH l).length:=(be.mp hj).1
  rw[addr_add,hat j hjl,<-List.getElem?_eq_getElem hjl,hj]
 ·intro v hv
  obtain⟨n,_,rfl⟩:=kj.mp hv
  rfl
 have e:((cH cs).toArray.toList.take off++(cH l++(cH cs).toArray.toList.drop (off+(cH l).length))).toArray=(cH (splice cs off l)).toArray:=by
  simp[splice,List.map_take,List.map_drop]
 rw[e,show(cH l).length=sLen by rw[aj,hl]]
 exact hfin ⟨rfl,rfl,rfl,by simp[World.setRow],fun k hk hne=>setRow_other w g k _ (fun e=>hne (by rw[e]))⟩
theorem Ft {tmps:Array Value} {w w2:World} {g:Nat} {cs:List Int} {q:Bool} (h2:tmps.getD 2 undef=.pointer (some ⟨g,0,none⟩)) (h3:tmps.getD 3 undef=.pointer (some ⟨g+1,0,none⟩)) (h:Two w g cs q w2) :
  (results f199 tmps).run prog w2=.ok (.tuple #[.agg (cH cs).toArray,.bool q]) w2:=by
 have h2':tmps[2]?.getD undef=.pointer (some ⟨g,0,none⟩):=by simpa using h2
 have h3':tmps[3]?.getD undef=.pointer (some ⟨g+1,0,none⟩):=by simpa using h3
 have hl:=run_loadVar_row (P:=prog) w2 g 25 25 (cH cs).toArray (0,0) _ h.a underlying25 rfl (by rw[mH];simp[h.len])
 obtain⟨hc,hz⟩:=h.cell
 have hlb:(loadVar 4 ⟨g+1,0,none⟩).run prog w2=.ok (.bool q) w2:=by simp[go_sem,hc]
 simp[results,results199,asAddr,h2',h3',hl,hlb]
theorem uu:(prog.info? 24).map (·.size)=some 1:=by kernel_rfl
theorem ou {tmps:Array Value} {w w3:World} {g:Nat} {cs:List Int} {q:Bool} (h2:tmps.getD 2 undef=.pointer (some ⟨g,0,none⟩)) (h3:tmps.getD 3 undef=.pointer (some ⟨g+1,0,none⟩)) (h:Two w g cs q w3) (hg:w.heap.size<=g) {R:Option (List Int)} (hR:R=none) :
  bodyPostD prog f199 (fun e w'=>e=Wq R∧Below w.heap.size w w') (Exit.panic [{v:=.iface 211 (.agg #[]),recovered:=false}])
   {tmps:=tmps,defers:=[{target:=.fn (.func 206) #[.pointer (some ⟨g,0,none⟩),.pointer (some ⟨g+1,0,none⟩)],args:=#[]}]} w3:=by
 subst hR
 refine leaves_cons (f:=206) (args:=#[.pointer (some ⟨g,0,none⟩),.pointer (some ⟨g+1,0,none⟩)]) (by simp) (by simp[go_sem]) ?_
 refine(BK w g cs q _ _ [] w3 h hg).mono ?_
 rintro e u' w4 ⟨rfl,rfl,h4⟩
 exact⟨_,Ft h2 h3 h4,rfl,h4.bq⟩
theorem mZ {tmps:Array Value} {w w3:World} {g:Nat} {cs:List Int} {q:Bool} (h2:tmps.getD 2 undef=.pointer (some ⟨g,0,none⟩)) (h3:tmps.getD 3 undef=.pointer (some ⟨g+1,0,none⟩)) (h:Two w g cs q w3) {R:Option (List Int)} (hR:cs=R.getD Z8) (hq:q=R.isSome) :
  bodyPostD prog f199 (fun e w'=>e=Wq R∧Below w.heap.size w w') Exit.ret
   {tmps:=tmps,defers:=[{target:=.fn (.func 206) #[.pointer (some ⟨g,0,none⟩),.pointer (some ⟨g+1,0,none⟩)],args:=#[]}]} w3:=by
 refine leaves_cons (f:=206) (args:=#[.pointer (some ⟨g,0,none⟩),.pointer (some ⟨g+1,0,none⟩)]) (by simp) (by simp[go_sem]) ?_
 refine(BJ _ _ w3).mono ?_
 rintro e u' w4 ⟨rfl,rfl,rfl⟩
 exact⟨_,Ft h2 h3 h,by rw[hR,hq],h.bq⟩
theorem Wr (b K N:Nat) (h:K+N=8):∃ o',o'+N<=8∧(N≠0->o'=K)∧∀ W,(Instr.sliceAt 25 (.pointer (some ⟨b,0,none⟩)) (some (.int .i64 (K:Int))) none none).run prog W=.ok (.slice (some ⟨b,o',none⟩) N N) W:=by
 have hk:((K:Int)).toNat=K:=rfl
 have hrun:=fun W=>run_sliceAt_array_l (P:=prog) W 25 ⟨b,0,none⟩ underlying25 .i64 (K:Int) (by omega) (by show(K:Int)<=8;omega)
 have hsz:∀ W,(sizeOf (prog.elem 25)).run prog W=.ok 1 W:=fun W=>by
  obtain⟨i,hi,_,hs,_⟩:=info_parts AI
  exact Nw hi hs W
 by_cases hN:N=0
 ·subst hN
  refine⟨0,by omega,fun h=>absurd rfl h,fun W=>?_⟩
  rw[hrun,hsz]
  have hK:K=8:=by omega
  subst hK
  rfl
 refine⟨K,by omega,fun _=>rfl,fun W=>?_⟩
 rw[hrun,hsz]
 show Result.ok (slicedAt ⟨b,0,none⟩ K 8 8 1) W=_
 unfold slicedAt
 rw[if_neg (by omega),show(⟨b,0,none⟩:Addr).add (K*1)=⟨b,K,none⟩ by rw[addr_add];simp,show 8-K=N by omega]
theorem DG {u v:List Int} {o' K:Nat} (hK:K+v.length=8) (hL:u.length+v.length<8) (ho:v.length≠0->o'=K) (ho2:o'+v.length<=8) :
  splice (splice Z8 0 u) o' v=u++List.replicate (8-u.length-v.length) 0++v:=by
 have e1:splice Z8 0 u=u++List.replicate (8-u.length) 0:=by
  unfold splice
  have:Z8=List.replicate 8 0:=rfl
  rw[this,gZ,bW,List.drop_replicate,bk]
 rw[e1]
 unfold splice
 by_cases hv:v=[]
 ·subst hv
  simp only[aQ,d8,bW,cT,nG,aV]
 have hvl:v.length≠0:=fun e=>hv (am e)
 rw[ho hvl,List.take_append,aI (by omega),List.take_replicate,di (by simp;omega),aV]
 congr 2
 congr 1
 omega
theorem QD {w:World} {base e n:Nat} {v:Value} {xs:List Value} (h:w.ownsRow base e 1 v n xs) {g:Nat} (hg:g<base):v.ownBlock=none∨v.ownBlock≠some g:=by
 rcases h.2 with⟨rfl,_⟩|⟨k,cap,cur,rfl,hk,_⟩
 ·exact .inl rfl
 right
 intro e
 simp only[Value.ownBlock,ko]at e
 omega
theorem ym (l:Bytes) (w:World) (hl:l.length<=1024000000) (hE:Env w):Calls prog 199 #[.string (bs l)] w fun e w'=>e=Wq (nO l)∧Below w.heap.size w w':=by
 have hmf:∀ (fn:Fn) (first cap:Array Value) (w:World),(Instr.makeFunc fn first cap).run prog w=.ok (.func fn first cap) w:=fun _ _ _ _=>rfl
 have kK:=fun W (h:Below w.heap.size w W)=>gy l [58,58] W hl (hE.below h)
 rw[show bs [58,58]=⟨#[58,58]⟩from rfl,tA]at kK
 have hr1:=fun W (h:Below w.heap.size w W)=>yk l true W hl (hE.below h)
 obtain⟨R,hR⟩:=ap (nO l)
 rw[<-hR]
 unfold nO at hR
 have hlen:∀ a b,uR l=some (a,b)->a.length<=1024000000∧b.length<=1024000000:=by
  intro a b h
  have h1:=zi l [58,58]
  rw[tA,h]at h1
  dsimp only at h1
  omega
 have hra:=fun a b (h:uR l=some (a,b)) W (hw:Below w.heap.size w W)=>yk a false W (hlen a b h).1 (hE.below hw)
 have hrb:=fun a b (h:uR l=some (a,b)) W (hw:Below w.heap.size w W)=>yk b true W (hlen a b h).2 (hE.below hw)
 clear hlen hE hl
 have tw:=Ir w
 obtain⟨s,hs⟩:=ap (bs l)
 rw[<-hs]at kK hr1 ⊢
 have HS:=h_ hs;clear hs
 have HR:=h_ hR;clear hR
 have D9:=h_ tw;clear tw
 cases hc:uR l with
 |none =>
  rw[hc]at kK HR
  have jO:=h_ kK;clear kK
  clear hra hrb hc
  cases hrr:pI true l with
  |none =>
   rw[hrr]at hr1 HR
   change ∀W,Below w.heap.size w W->Calls _ _ _ W fun e w'=>e=Ec∧Below W.heap.size W w' at hr1
   have HR1:=h_ hr1;clear hr1 hrr
   go_enter_defers func199,ntmps199
   go_wp2_with (first
    |(refine aE rfl 25 rfl _ _ (oO _) ?_)
    |(go_at_call 68;refine(jO.out _ D9.out.bq).mono ?_;rintro e w2 ⟨rfl,hb2⟩;have HT2:=h_ (D9.out.below (ae _) hb2);clear hb2)
    |(go_at_call 207;refine(HR1.out _ HT2.out.bq).mono ?_;rintro e w3 ⟨rfl,hb3⟩;have HT3:=h_ (HT2.out.below (ae _) hb3);clear hb3)
    |fail)
   exact ou rfl rfl HT3.out (ae _) HR.out
  |some v =>
   rw[hrr]at hr1 HR
   change ∀W,Below w.heap.size w W->Calls _ _ _ W fun e w'=>(∃x,e=.returned x∧w'.ownsRow W.heap.size 24 1 x v.length (cH v))∧Below W.heap.size W w' at hr1
   have HR1:=h_ hr1;clear hr1
   have WQ:=h_ (gU hrr);clear hrr
   obtain⟨N,hN⟩:=ap (v.length)
   have hN8:N<=8:=by rw[hN];exact WQ.out.2
   have hr:=HR.out
   dsimp only at hr
   rw[<-hN]at hr
   have HR:=h_ hr;clear hr
   have HN:=h_ hN;clear hN
   by_cases h8:N=8
   ·rw[if_pos h8]at HR
    subst h8
    go_enter_defers func199,ntmps199
    go_wp2_with (first
     |(refine aE rfl 25 rfl _ _ (oO _) ?_)
     |(go_at_call 68;refine(jO.out _ D9.out.bq).mono ?_;rintro e w2 ⟨rfl,hb2⟩;have HT2:=h_ (D9.out.below (ae _) hb2);clear hb2)
     |(go_at_call 207;refine(HR1.out _ HT2.out.bq).mono ?_;rintro e w3 ⟨⟨x,rfl,ho3⟩,hb3⟩;rw[<-HN.out]at ho3;obtain⟨av,cv,hv⟩:=dS ho3;subst hv;have lB:=h_ (Sl.bL ho3);clear ho3;have HT3:=h_ (HT2.out.below (ae _) hb3);clear hb3)
     |((refine xu rfl (.tmp 25) (.tmp 26) _ _ rfl 24 underlying198 uu w w.heap.size Z8 false HT3.out (ae _) 0 8 8 rfl av 8 cv rfl v HN.out.symm _ lB.out (by omega) (by omega) ?_);intro w4 Qb hg4;rw[show splice Z8 0 v=v by unfold splice;rw[<-HN.out];simp[Z8]]at Qb;have Bi:=h_ Qb;clear Qb hg4)
     |(refine wpList_load_row rfl 25 (.tmp 2) rfl w.heap.size rfl _ _ _ _ Bi.out.a underlying25 rfl (by rw[mH];simp[Bi.out.len]) ?_)
     | (refine wpList_store_row rfl 25 (.tmp 2) (.tmp 28) rfl w.heap.size (cH v).toArray rfl rfl _ _ Bi.out.a (by rw[mH];simp[Bi.out.len]) (by simp) (Df _) ?_
        have EO:=Bi.out.row (ds:=v) (ae _) Bi.out.len
        revert EO
        generalize World.setRow _ w.heap.size (cH v).toArray=w5
        intro EO
        obtain⟨hc5,hz5⟩:=EO.cell
        have TW:=h_ EO;clear EO)
     |fail)
    exact mZ rfl rfl (TW.out.set (ae _) true) (by rw[HR.out];rfl) (by rw[HR.out];rfl)
   rw[if_neg h8]at HR
   have h8':((N:Int)==8)=false:=by simp;omega
   go_enter_defers func199,ntmps199
   go_wp2_with (first
    |(refine aE rfl 25 rfl _ _ (oO _) ?_)
    |(go_at_call 68;refine(jO.out _ D9.out.bq).mono ?_;rintro e w2 ⟨rfl,hb2⟩;have HT2:=h_ (D9.out.below (ae _) hb2);clear hb2)
    |(go_at_call 207;refine(HR1.out _ HT2.out.bq).mono ?_;rintro e w3 ⟨⟨x,rfl,ho3⟩,hb3⟩;rw[<-HN.out]at ho3;obtain⟨av,cv,hv⟩:=dS ho3;subst hv;have lB:=h_ (Sl.bL ho3);clear ho3;have HT3:=h_ (HT2.out.below (ae _) hb3);clear hb3)
    |(refine bG rfl 25 #[] rfl (.agg (cH Z8).toArray) #[] rfl Uy ?_)
    | (refine wpList_store_row rfl 25 (.tmp 2) (.tmp 24) rfl _ (cH Z8).toArray rfl rfl _ _ HT3.out.a (by rw[mH];rfl) (by simp[Z8]) (Df _) ?_
       have Qb:=HT3.out.row (ds:=Z8) (ae _) rfl
       revert Qb
       generalize World.setRow _ w.heap.size (cH Z8).toArray=w4
       intro Qb
       obtain⟨hc4,hz4⟩:=Qb.cell
       have Bi:=h_ Qb;clear Qb)
    |fail)
   exact mZ rfl rfl (Bi.out.set (ae _) false) (by rw[HR.out];rfl) (by rw[HR.out];rfl)
 |some ab =>
  obtain⟨a,b⟩:=ab
  rw[hc]at kK HR
  have hr2:=hra a b hc
  have hr3:=hrb a b hc
  clear hra hrb hr1 hc
  have jO:=h_ kK;clear kK
  have hr0:R=(match pI false a,pI true b with|some l,some r=>if 8<=l.length+r.length then none else some (l++List.replicate (8-l.length-r.length) 0++r)|_,_=>none):=HR.out
  have HR:=h_ hr0;clear hr0
  cases hrr:pI false a with
  |none =>
   rw[hrr]at hr2 HR
   change ∀W,Below w.heap.size w W->Calls _ _ _ W fun e w'=>e=Ec∧Below W.heap.size W w' at hr2
   have HR2:=h_ hr2;clear hr2 hr3 hrr
   go_enter_defers func199,ntmps199
   go_wp2_with (first
    |(refine aE rfl 25 rfl _ _ (oO _) ?_)
    |(go_at_call 68;refine(jO.out _ D9.out.bq).mono ?_;rintro e w2 ⟨rfl,hb2⟩;have HT2:=h_ (D9.out.below (ae _) hb2);clear hb2)
    |(go_at_call 207;with_reducible refine(HR2.out _ HT2.out.bq).mono ?_;rintro e w3 ⟨rfl,hb3⟩;have HT3:=h_ (HT2.out.below (ae _) hb3);clear hb3)
    |fail)
   exact ou rfl rfl HT3.out (ae _) HR.out
  |some u =>
   rw[hrr]at hr2 HR
   change ∀W,Below w.heap.size w W->Calls _ _ _ W fun e w'=>(∃x,e=.returned x∧w'.ownsRow W.heap.size 24 1 x u.length (cH u))∧Below W.heap.size W w' at hr2
   have HR2:=h_ hr2;clear hr2
   obtain⟨L,hL⟩:=ap (u.length)
   have hL8:L<=8:=by rw[hL];exact(gU hrr).2
   have HL:=h_ hL;clear hL hrr
   cases hrr:pI true b with
   |none =>
    rw[hrr]at hr3 HR
    change ∀W,Below w.heap.size w W->Calls _ _ _ W fun e w'=>e=Ec∧Below W.heap.size W w' at hr3
    have HR3:=h_ hr3;clear hr3 hrr
    go_enter_defers func199,ntmps199
    go_wp2_with (first
    |(refine aE rfl 25 rfl _ _ (oO _) ?_)
    |(go_at_call 68;refine(jO.out _ D9.out.bq).mono ?_;rintro e w2 ⟨rfl,hb2⟩;have HT2:=h_ (D9.out.below (ae _) hb2);clear hb2)
    |(go_at_call 207;with_reducible refine(HR2.out _ HT2.out.bq).mono ?_;rintro e w3 ⟨⟨x,rfl,ho3⟩,hb3⟩;clear ho3;have HT3:=h_ (HT2.out.below (ae _) hb3);clear hb3)
    |(go_at_call 207;with_reducible refine(HR3.out _ HT3.out.bq).mono ?_;rintro e w4 ⟨rfl,hb4⟩;have Bi:=h_ (HT3.out.below (ae _) hb4);clear hb4)
    |fail)
    exact ou rfl rfl Bi.out (ae _) (by rw[HR.out])
   |some v =>
    rw[hrr]at hr3 HR
    change ∀W,Below w.heap.size w W->Calls _ _ _ W fun e w'=>(∃x,e=.returned x∧w'.ownsRow W.heap.size 24 1 x v.length (cH v))∧Below W.heap.size W w' at hr3
    have HR3:=h_ hr3;clear hr3
    obtain⟨N,hN⟩:=ap (v.length)
    have hN8:N<=8:=by rw[hN];exact(gU hrr).2
    have HN:=h_ hN;clear hN hrr
    have hr:=HR.out
    dsimp only at hr
    rw[<-HL.out,<-HN.out]at hr
    have HR:=h_ hr;clear hr
    have hws:IntKind.i64.wrap ((L:Int)+(N:Int))=(L:Int)+(N:Int):=IntWalk.i64_in _ (by omega)
    by_cases h8:8<=L+N
    ·rw[if_pos h8]at HR
     have h8':(8:Int)<=(L:Int)+(N:Int):=by omega
     go_enter_defers func199,ntmps199
     go_wp2_with (first
    |(refine aE rfl 25 rfl _ _ (oO _) ?_)
    |(go_at_call 68;refine(jO.out _ D9.out.bq).mono ?_;rintro e w2 ⟨rfl,hb2⟩;have HT2:=h_ (D9.out.below (ae _) hb2);clear hb2)
    |(go_at_call 207;with_reducible refine(HR2.out _ HT2.out.bq).mono ?_;rintro e w3 ⟨⟨x,rfl,ho3⟩,hb3⟩;rw[<-HL.out]at ho3;obtain⟨av,cv,hv⟩:=dS ho3;subst hv;clear ho3;have HT3:=h_ (HT2.out.below (ae _) hb3);clear hb3)
    |(go_at_call 207;with_reducible refine(HR3.out _ HT3.out.bq).mono ?_;rintro e w4 ⟨⟨y,rfl,SZ⟩,hb4⟩;rw[<-HN.out]at SZ;obtain⟨aw,cw,hw⟩:=dS SZ;subst hw;clear SZ;have Bi:=h_ (HT3.out.below (ae _) hb4);clear hb4)
    |(refine bG rfl 25 #[] rfl (.agg (cH Z8).toArray) #[] rfl Uy ?_)
    | (refine wpList_store_row rfl 25 (.tmp 2) (.tmp 39) rfl _ (cH Z8).toArray rfl rfl _ _ Bi.out.a (by rw[mH];rfl) (by simp[Z8]) (Df _) ?_
       have EO:=Bi.out.row (ds:=Z8) (ae _) rfl
       revert EO
       generalize World.setRow _ w.heap.size (cH Z8).toArray=w5
       intro EO
       obtain⟨hc5,hz5⟩:=EO.cell
       have TW:=h_ EO;clear EO)
    |fail)
     exact mZ rfl rfl (TW.out.set (ae _) false) (by rw[HR.out];rfl) (by rw[HR.out];rfl)
    ·rw[if_neg h8]at HR
     have h8':¬ (8:Int)<=(L:Int)+(N:Int):=by omega
     obtain⟨K,hK⟩:=ap (8-N)
     have hwk:IntKind.i64.wrap (8-(N:Int))=(K:Int):=by rw[IntWalk.i64_in _ (by omega)];omega
     have hK8:K<=8:=by omega
     have hKN:K+N=8:=by omega
     obtain⟨o',ho1,ho2,hsl⟩:=Wr w.heap.size K N hKN
     have ZR:splice (splice Z8 0 u) o' v=u++List.replicate (8-L-N) 0++v:=by
      have e1:=HL.out
      have e2:=HN.out
      rw[e1,e2]
      exact DG (K:=K) (by omega) (by omega) (by rw[<-e2];exact ho2) (by omega)
     have a2D:=h_ ZR;clear ZR
     have HK:=h_ hKN;clear hK hKN
     have eO:=h_ ho2;clear ho2
     go_enter_defers func199,ntmps199
     go_wp2_with (first
    |(refine aE rfl 25 rfl _ _ (oO _) ?_)
    |(go_at_call 68;refine(jO.out _ D9.out.bq).mono ?_;rintro e w2 ⟨rfl,hb2⟩;have HT2:=h_ (D9.out.below (ae _) hb2);clear hb2)
    |(go_at_call 207;with_reducible refine(HR2.out _ HT2.out.bq).mono ?_;rintro e w3 ⟨⟨x,rfl,ho3⟩,hb3⟩;rw[<-HL.out]at ho3;obtain⟨av,cv,hv⟩:=dS ho3;subst hv;have lB:=h_ ho3;clear ho3;have hz3:=HT2.out.lt;have HT3:=h_ (HT2.out.below (ae _) hb3);clear hb3)
    |(go_at_call 207;with_reducible refine(HR3.out _ HT3.out.bq).mono ?_;rintro e w4 ⟨⟨y,rfl,SZ⟩,hb4⟩;rw[<-HN.out]at SZ;obtain⟨aw,cw,hw⟩:=dS SZ;subst hw;have Bf:=h_ SZ;clear SZ;have a2r:=h_ (own_below lB.out hb4);have hz4:=HT3.out.lt;have Bi:=h_ (HT3.out.below (ae _) hb4);clear hb4)
    |((refine xu rfl (.tmp 40) (.tmp 41) _ _ rfl 24 underlying198 uu w w.heap.size Z8 false Bi.out (ae _) 0 8 8 rfl av L cv rfl u HL.out.symm _ (Sl.bL a2r.out) (by omega) (by omega) ?_);intro w5 EO hg5;have TW:=h_ EO;have uE:=h_ (Bf.out.kept hg5 (QD Bf.out (by omega)));clear EO hg5)
    |((refine xu rfl (.tmp 46) (.tmp 47) _ _ rfl 24 underlying198 uu w w.heap.size _ false TW.out (ae _) o' N N rfl aw N cw rfl v HN.out.symm _ (Sl.bL uE.out) ho1 (ae _) ?_);intro w6 ht6 Vq;rw[a2D.out]at ht6;have WS:=h_ ht6;clear ht6 Vq)
    |(refine wpList_load_row rfl 25 (.tmp 2) rfl w.heap.size rfl _ _ _ _ WS.out.a underlying25 rfl (by rw[mH];simp only[km,aj,WS.out.len]) ?_)
    | (refine wpList_store_row rfl 25 (.tmp 2) (.tmp 49) rfl w.heap.size (cH (u++List.replicate (8-L-N) 0++v)).toArray rfl rfl _ _ WS.out.a (by rw[mH];simp only[km,aj,WS.out.len]) rfl (Df _) ?_
       have ZU:=WS.out.row (ds:=(u++List.replicate (8-L-N) 0++v)) (ae _) WS.out.len
       revert ZU
       generalize World.setRow _ w.heap.size (cH (u++List.replicate (8-L-N) 0++v)).toArray=w7
       intro ZU
       obtain⟨hc7,hz7⟩:=ZU.cell
       have HT7:=h_ ZU;clear ZU)
    |fail)
     exact mZ rfl rfl (HT7.out.set (ae _) true) (by rw[HR.out];rfl) (by rw[HR.out];rfl)

structure Out (w:World) (b:Nat) (cs ds:List Int) (wr:World):Prop where
 a:wr.heap[b]? = some (.cells (cH cs).toArray 25 (0,0))
 x:wr.heap[b+1]? = some (.cells (cH ds).toArray 25 (0,0))
 la:cs.length=8
 lx:ds.length=8
 bq:Below w.heap.size w wr
theorem Out.lt {w:World} {b:Nat} {cs ds:List Int} {wr:World} (h:Out w b cs ds wr):b+1<wr.heap.size:=(bg.1 h.x).1
theorem Out.below {w:World} {b:Nat} {cs ds:List Int} {wr w2:World} (h:Out w b cs ds wr) (hb:w.heap.size<=b) (h2:Below wr.heap.size wr w2):Out w b cs ds w2:=by
 have:=h.lt
 exact⟨(h2.block b (by omega)).trans h.a,(h2.block (b+1) (by omega)).trans h.x,h.la,h.lx,h.bq.trans (h2.mono (by omega))⟩
theorem Out.row {w:World} {b:Nat} {cs ds es:List Int} {wr:World} (h:Out w b cs ds wr) (hb:w.heap.size<=b) (hd:es.length=8):Out w b es ds (wr.setRow b (cH es).toArray) :=
 ⟨setRow_heap wr b _ _ _ _ h.a,(setRow_other wr b (b+1) _ (by omega)).trans h.x,hd,h.lx,below_setRow h.bq hb _⟩
theorem Out.set {w:World} {b:Nat} {cs ds:List Int} {wr:World} (h:Out w b cs ds wr) (hb:w.heap.size<=b) (i:Nat) (n:Int):Out w b cs (ds.set i n) (wr.setCell ⟨b+1,i,none⟩ (.int .u16 n)):=by
 have e:=setCell_eq_setRow wr (b+1) i _ _ _ (.int .u16 n) h.x
 rw[e]
 have e2:(cH ds).toArray.setIfInBounds i (.int .u16 n)=(cH (ds.set i n)).toArray:=by
  rw[WY]
  show((ds.map (Value.int .u16)).set i (.int .u16 n)).toArray=((ds.set i n).map (Value.int .u16)).toArray
  rw[a5F]
 rw[e2]
 exact⟨(setRow_other wr (b+1) b _ (by omega)).trans h.a,setRow_heap wr (b+1) _ _ _ _ h.x,h.la,by rw[List.length_set];exact h.lx,below_setRow h.bq (by omega) _⟩
theorem Out.cell {w:World} {b:Nat} {cs ds:List Int} {wr:World} (h:Out w b cs ds wr) (i:Nat) (hi:i<8):(∃v,wr.cell? ⟨b+1,i,none⟩=some v)∧wr.frozen? ⟨b+1,i,none⟩=false:=by
 constructor
 ·have:i<ds.length:=by rw[h.lx];exact hi
  exact⟨.int .u16 ds[i],by simp[World.cell?,h.x,this]⟩
 simp[World.frozen?,h.x]
theorem Ku (w:World) (b i g j:Nat) (v:Value) (h:g≠b):(w.setCell ⟨b,i,none⟩ v).cell? ⟨g,j,none⟩=w.cell? ⟨g,j,none⟩:=by
 apply World.cell?_of_block
 show(w.setCell ⟨b,i,none⟩ v).heap[g]? = w.heap[g]?
 simp[World.setCell,Array.getElem?_modify,Ne.symm h]

def OwnAt (w:World) (av:Option Addr) (b:Nat) (xs:List Int):Prop:=∀ i (hi:i<xs.length),∃g,av=some ⟨g,0,none⟩∧g≠b∧w.cell? ⟨g,i,none⟩=some (.int .i64 xs[i])
theorem OwnAt.of {w:World} {av:Option Addr} {B b n c:Nat} {xs:List Int} (h:w.ownsRow B 3 1 (.slice av n c) n (dw xs)) (hb:b<B):OwnAt w av b xs:=by
 intro i hi
 rcases vU h with⟨_,h0⟩|⟨g,c',hv,hg1,_,hcv⟩
 ·have:(dw xs).length=0:=by rw[h0];rfl
  rw[aj]at this;omega
 injection hv with e1 _ _
 refine⟨g,e1,by omega,?_⟩
 have:=hcv i (by rw[aj];exact hi)
 rw[bk]at this
 simpa using this
theorem OwnAt.set {w:World} {av:Option Addr} {b:Nat} {xs:List Int} (h:OwnAt w av b xs) (i:Nat) (v:Value):OwnAt (w.setCell ⟨b,i,none⟩ v) av b xs:=by
 intro j hj
 obtain⟨g,h1,h2,h3⟩:=h j hj
 exact⟨g,h1,h2,by rw[Ku _ _ _ _ _ _ h2];exact h3⟩
theorem OwnAt.below {w w2:World} {av:Option Addr} {b:Nat} {xs:List Int} (h:OwnAt w av b xs) (hb:Below w.heap.size w w2):OwnAt w2 av b xs:=by
 intro j hj
 obtain⟨g,h1,h2,h3⟩:=h j hj
 exact⟨g,h1,h2,by rw[hb.cell (p:=⟨g,j,none⟩) (block_lt_of_cell h3)];exact h3⟩

def Fd (c:Int):Bool:=lL c||decide (c<32∨c=37∨c=127)
def H0:gE:={kind:=0,name:=[],four:=0,six:=Z8}
def SE (s:Bytes):Option gE:=if Lib.hasSuffix s [93]=true then(match nO (Lib.trimSuffix s [93])with|none=>none|some a=>some {H0 with kind:=4,six:=a})else none
def Tc (s:Bytes):Option gE :=
 match kY (lQ s)with
 |none=>none
 |some n=>if n=[]then none else if n.any (fun x=>Fd (b2 x))=true then none else if vw n=true then(match mo n with|none=>none|some v=>some {H0 with kind:=3,four:=v})else some {H0 with kind:=2,name:=n}
def el (s:Bytes) (special:Bool):Option gE :=
 if s.head? = some 91 then SE (s.drop 1)
 else if special=true then Tc s
 else if s=[]then some {H0 with kind:=1}
 else if s.any (fun x=>lL (b2 x))=true then none
 else some {H0 with kind:=5,name:=df 0 s}
theorem JW {f:UInt8->Bool} {l:Bytes} (h:∀ k (hk:k<l.length),f l[k]=false):l.any f=false:=by
 rw[List.any_eq_false]
 intro x hx
 obtain⟨k,hk,rfl⟩:=dQ hx
 simp[h k hk]
theorem Ef {f:UInt8->Bool} {l:Bytes} {k:Nat} (hk:k<l.length) (h:f l[k]=true):l.any f=true:=List.any_eq_true.mpr ⟨l[k],bJ hk,h⟩

theorem ya {set:Int} {l:Bytes} (h:∀ y∈l,jW set (b2 y)=false):df set l=l:=by
 induction l with
 |nil=>rfl
 |cons x r ih =>
  have e:df set (x::r)=uI set x++df set r:=by unfold df;simp
  rw[e,ih (fun y hy=>h y (by simp[hy]))]
  unfold uI
  rw[if_neg (by rw[h x (by simp)];simp)]
  rfl
inductive qT (s:Bytes) (sp:Bool):gE->Prop where
 |six (a:List Int) (h8:a.length=8) (ha:∀ n∈a,0<=n∧n<65536) (hs:s.head? = some 91):qT s sp {H0 with kind:=4,six:=a}
 |name (n:Bytes) (e:sp=true) (hs:s.head? ≠ some 91) (hd:kY (lQ s)=some n) (hn:n ≠ []) (hb:∀ y∈n,Fd (b2 y)=false) (he:vw n=false):qT s sp {H0 with kind:=2,name:=n}
 |four (n:Nat) (e:sp=true) (hs:s.head? ≠ some 91) (h:n<4294967296):qT s sp {H0 with kind:=3,four:=n}
 |empty (e:sp=false) (h:s=[]):qT s sp {H0 with kind:=1}
 |V4 (e:sp=false) (hs:s.head? ≠ some 91) (h:s ≠ []) (hb:∀ y∈s,lL (b2 y)=false):qT s sp {H0 with kind:=5,name:=df 0 s}
theorem JX {α:Type} {f:α->Bool} {l:List α} (h:¬ l.any f=true):∀ y∈l,f y=false:=by
 have h2:l.any f=false:=by simpa using h
 intro y hy
 have:=List.any_eq_false.mp h2 y hy
 simpa using this
theorem hkind {s:Bytes} {sp:Bool} {h:gE} (e:el s sp=some h):qT s sp h:=by
 unfold el at e
 by_cases h1:s.head? = some 91
 ·rw[if_pos h1]at e
  unfold SE at e
  split at e
  ·cases hs:nO (Lib.trimSuffix (s.drop 1) [93])with
   |none=>rw[hs]at e;cases e
   |some a =>
    rw[hs]at e
    injection e with e
    subst e
    exact .six a (lr hs).1 (lr hs).2 h1
  cases e
 rw[if_neg h1]at e
 cases sp with
 |true =>
  rw[if_pos rfl]at e
  unfold Tc at e
  cases hd:kY (lQ s)with
  |none=>rw[hd]at e;cases e
  |some n =>
   rw[hd]at e
   dsimp only at e
   split at e
   ·cases e
   next hn =>
   split at e
   ·cases e
   next hb =>
   split at e
   ·next he =>
    cases hf:mo n with
    |none=>rw[hf]at e;cases e
    |some v =>
     rw[hf]at e
     injection e with e
     subst e
     have hv:=xI hf
     obtain⟨m,hm⟩:∃ m:Nat,v=m:=⟨v.toNat,by omega⟩
     subst hm
     exact .four m rfl h1 (by omega)
   next he =>
   injection e with e
   subst e
   exact .name n rfl h1 hd hn (JX hb) (by simpa using he)
 |false =>
  rw[if_neg (by simp)]at e
  split at e
  ·next hn =>
   injection e with e
   subst e
   exact .empty rfl hn
  next hn =>
  split at e
  ·cases e
  next hb =>
  injection e with e
  subst e
  exact .V4 rfl h1 hn (JX hb)

abbrev bp (h:gE):Array Value:=(aW h).toArray
theorem oP (w:World):(Instr.alloc 27 true (Value.tuple #[])).run prog w=.ok (.pointer (some ⟨w.heap.size,0,none⟩)) (w.alloc (.cells (bp H0) 27)):=by kernel_rfl
theorem nI:∀ w,(Instr.build 27 #[]).run prog w=.ok (.agg (bp H0)) w:=fun w=>by kernel_rfl
theorem Yu:∀ w,(Instr.build 27 #[(0,.int .i64 1)]).run prog w=.ok (.agg (bp {H0 with kind:=1})) w:=fun w=>by kernel_rfl
theorem Yv (n:Bytes):∀ w,(Instr.build 27 #[(0,.int .i64 2),(1,.string (bs n))]).run prog w=.ok (.agg (bp {H0 with kind:=2,name:=n})) w:=fun w=>by kernel_rfl
theorem Yy (n:Bytes):∀ w,(Instr.build 27 #[(0,.int .i64 5),(1,.string (bs n))]).run prog w=.ok (.agg (bp {H0 with kind:=5,name:=n})) w:=fun w=>by kernel_rfl
theorem Yw (v:Int):∀ w,(Instr.build 27 #[(0,.int .i64 3),(2,.int .u32 v)]).run prog w=.ok (.agg (bp {H0 with kind:=3,four:=v})) w:=fun w=>by kernel_rfl
theorem Yx (a:List Int) (h:a.length=8):∀ w,(Instr.build 27 #[(0,.int .i64 4),(3,.agg (cH a).toArray)]).run prog w=.ok (.agg (bp {H0 with kind:=4,six:=a})) w:=fun w=>by
 obtain⟨a,b,c,d,e,f,g,i,rfl⟩:=eight h
 kernel_rfl
theorem hsize (h:gE) (hl:h.six.length=8):(prog.info? 27).map (·.size)=some (bp h).size:=by
 rw[gR];simp[aW,hl]
theorem S1 (h:gE):(bp h).all (·.oneCell')=true:=by
 rw[Array.all_eq_true]
 intro i hi
 have hm:(bp h)[i]∈aW h:=by simp
 simp only[aW,aN,kj]at hm
 rcases hm with e|e|e|⟨_,_,e⟩ <;>first|(rw[e];rfl)|(rw[<-e];rfl)
structure yU (w:World) (b:Nat) (h:gE) (wr:World):Prop where
 a:wr.heap[b]? = some (.cells (bp h) 27 (0,0))
 l:h.six.length=8
 bq:Below w.heap.size w wr
theorem yU.lt {w:World} {b:Nat} {h:gE} {wr:World} (i:yU w b h wr):b<wr.heap.size:=(bg.1 i.a).1
theorem yU.below {w:World} {b:Nat} {h:gE} {wr w2:World} (i:yU w b h wr) (hb:w.heap.size<=b) (h2:Below wr.heap.size wr w2):yU w b h w2:=by
 have:=i.lt
 exact⟨(h2.block b (by omega)).trans i.a,i.l,i.bq.trans (h2.mono (by omega))⟩
theorem yU.alloc {w:World} {b:Nat} {h:gE} {wr:World} (i:yU w b h wr) (o:Obj) (hb:w.heap.size<=b):yU w b h (wr.alloc o):=i.below hb ((Below.refl _ wr).alloc (ae _) o)
theorem yU.put {w:World} {b:Nat} {h g:gE} {wr:World} (i:yU w b h wr) (hb:w.heap.size<=b) (hl:g.six.length=8):yU w b g (wr.setRow b (bp g)) :=
 ⟨setRow_heap wr b _ _ _ _ i.a,hl,below_setRow i.bq hb _⟩
theorem qu (w:World):yU w w.heap.size H0 (w.alloc (.cells (bp H0) 27)):=⟨heap_alloc_new w _,rfl,(Below.refl _ w).alloc (ae _) _⟩
abbrev vH (o:Option gE):Ending:=.returned (.tuple #[.agg (bp (o.getD H0)),.bool o.isSome])
theorem m3 (w:World) (b:Nat) (h:gE) (i:w.heap[b]? = some (.cells (bp h) 27 (0,0))) (hl:h.six.length=8):(loadVar 27 ⟨b,0,none⟩).run prog w=.ok (.agg (bp h)) w :=
 run_loadVar_row (P:=prog) w b 27 27 (bp h) (0,0) _ i underlying27 rfl (hsize h hl)
theorem dH {ops:Array Oper} {rest:List Oper} {o:Oper} {a:Act} {w:World} {Q:Exit->Act->World->Prop} (hgd:o.guard=none) (x y:Operand) (ho:o.op=.store 27 x y)
  (w0:World) (b:Nat) (h g:gE) (i:yU w0 b h w) (hb:w0.heap.size<=b) (hl:g.six.length=8) (hx:a.eval x=.pointer (some ⟨b,0,none⟩)) (hy:a.eval y=.agg (bp g))
  (k:∀ w',yU w0 b g w'->wpList prog ops Q rest (a.put o.dst undef) w'):wpList prog ops Q (o::rest) a w:=by
 refine wpList_store_row hgd _ x y ho b (bp g) hx hy _ _ i.a (hsize g hl) ?_ (S1 g) (k _ (i.put hb hl))
 simp[aW,i.l,hl]
theorem xr {ops:Array Oper} {rest:List Oper} {o:Oper} {a:Act} {w:World} {Q:Exit->Act->World->Prop} (hgd:o.guard=none) (i j:Nat) (x y:Operand) (ho:o.op=.build 27 #[(i,x),(j,y)])
  (X Y v:Value) (hx:a.eval x=X) (hy:a.eval y=Y) (hr:∀ w,(Instr.build 27 #[(i,X),(j,Y)]).run prog w=.ok v w) (k:wpList prog ops Q rest (a.put o.dst v) w):wpList prog ops Q (o::rest) a w:=by
 refine bG hgd _ _ ho v #[(i,X),(j,Y)] ?_ hr k
 subst hx;subst hy
 simp
theorem UG {ops:Array Oper} {rest:List Oper} {o:Oper} {a:Act} {w:World} {Q:Exit->Act->World->Prop} (hgd:o.guard=none) (i:Nat) (x:Operand) (ho:o.op=.build 27 #[(i,x)])
  (X v:Value) (hx:a.eval x=X) (hr:∀ w,(Instr.build 27 #[(i,X)]).run prog w=.ok v w) (k:wpList prog ops Q rest (a.put o.dst v) w):wpList prog ops Q (o::rest) a w:=by
 refine bG hgd _ _ ho v #[(i,X)] ?_ hr k
 subst hx
 simp
theorem BO (l m:Bytes) (w:World) (hl:l.length<=1024000000):Calls prog 136 #[.string (bs l),.string (bs m)] w fun e w'=>e=.returned (.tuple #[S (Lib.trimSuffix l m),.bool (Lib.hasSuffix l m)])∧w'=w:=by
 have h:=Any.strings_CutSuffix laysCutS (bs l) (bs m) w (by rw[aB];omega)
 rw[show(bs l).data.toList=l from du l,show(bs m).data.toList=m from du m]at h
 exact h
theorem NN (l m:Bytes):(Lib.trimSuffix l m).length<=l.length:=by
 unfold Lib.trimSuffix
 split
 ·rw[aA];omega
 exact ae _
theorem UC {tmps:Array Value} {w w2:World} {b:Nat} {h:gE} {q:Bool} (h2:tmps.getD 2 undef=.pointer (some ⟨b,0,none⟩)) (h3:tmps.getD 3 undef=.bool q) (i:yU w b h w2) {R:Option gE} (hR:h=R.getD H0) (hq:q=R.isSome) :
  bodyPost prog f185 (fun e w'=>e=vH R∧Below w.heap.size w w') Exit.ret {tmps:=tmps,defers:=[]} w2:=by
 have h2':tmps[2]?.getD undef=.pointer (some ⟨b,0,none⟩):=by simpa using h2
 have h3':tmps[3]?.getD undef=.bool q:=by simpa using h3
 have hl:=m3 w2 b h i.a i.l
 refine bodyPost_ret (v:=.tuple #[.agg (bp h),.bool q]) ?_ rfl ⟨by rw[hR,hq],i.bq⟩
 simp[results,results185,asAddr,h2',h3',hl]
theorem uQ (l:Bytes) (w:World) (hl:l.length<=1024000000) (hE:Env w):Calls prog 185 #[.string (bs l)] w fun e w'=>e=vH (SE l)∧Below w.heap.size w w':=by
 have hcs:=fun W=>BO l [93] W hl
 rw[show bs [93]=⟨#[93]⟩from rfl]at hcs
 have htl:=NN l [93]
 have hsx:=fun W (h:Below w.heap.size w W)=>ym (Lib.trimSuffix l [93]) W (by omega) (hE.below h)
 obtain⟨R,hR⟩:=ap (SE l)
 rw[<-hR]
 unfold SE at hR
 have hrg:=fun a (h:nO (Lib.trimSuffix l [93])=some a)=>(lr h).1
 obtain⟨T,hT⟩:=ap (Lib.trimSuffix l [93])
 rw[<-hT]at hcs hsx hR hrg
 obtain⟨q,hq⟩:=ap (Lib.hasSuffix l [93])
 rw[<-hq]at hcs hR
 clear hT hq htl hE
 obtain⟨s,hs⟩:=ap (bs l)
 rw[<-hs]at hcs ⊢
 clear hs hl
 have uZ:=h_ hcs;clear hcs
 have HI:=h_ (qu w)
 cases q with
 |false =>
  rw[if_neg (by simp)]at hR
  have HR:=h_ hR;clear hR hsx hrg
  go_enter func185,ntmps185
  go_wp2_with (first
   |(refine aE rfl 27 rfl _ _ (oP _) ?_)
   |(go_at_call 136;refine(uZ.out _).mono ?_;rintro e w2 ⟨rfl,hw2⟩;subst hw2)
   |(refine bG rfl 27 #[] rfl (.agg (bp H0)) #[] rfl nI ?_)
   |(refine dH rfl (.tmp 2) (.tmp 15) rfl w w.heap.size _ H0 HI.out (ae _) rfl rfl rfl ?_;intro w3 i3;have HI3:=h_ i3;clear i3)
   |fail)
  exact UC rfl rfl HI3.out (by rw[HR.out];rfl) (by rw[HR.out];rfl)
 |true =>
  rw[if_pos rfl]at hR
  cases LO:nO T with
  |none =>
   rw[LO]at hR hsx
   change ∀W,Below w.heap.size w W->Calls _ _ _ W fun e w'=>e=.returned (.tuple #[.agg (cH Z8).toArray,.bool false])∧Below W.heap.size W w' at hsx
   have HR:=h_ hR;clear hR hrg LO
   have Jp:=h_ hsx;clear hsx
   go_enter func185,ntmps185
   go_wp2_with (first
    |(refine aE rfl 27 rfl _ _ (oP _) ?_)
    |(go_at_call 136;refine(uZ.out _).mono ?_;rintro e w2 ⟨rfl,hw2⟩;subst hw2)
    |(go_at_call 199;refine(Jp.out _ HI.out.bq).mono ?_;rintro e w2 ⟨rfl,hb2⟩;have HI2:=h_ (HI.out.below (ae _) hb2);clear hb2)
    |(refine aE rfl 25 rfl _ _ (oO _) ?_)
    |(refine gd rfl 25 (.tmp 6) (.tmp 19) rfl (cH Z8).toArray (cH Z8).toArray _ rfl rfl (by rw[mH];rfl) rfl (Df _) ?_;have HI3:=h_ (HI2.out.alloc (.cells (cH Z8).toArray 25) (ae _)))
    |(refine bG rfl 27 #[] rfl (.agg (bp H0)) #[] rfl nI ?_)
    |(refine dH rfl (.tmp 2) (.tmp 23) rfl w w.heap.size _ H0 HI3.out (ae _) rfl rfl rfl ?_;intro w4 i4;have HI4:=h_ i4;clear i4)
    |fail)
   exact UC rfl rfl HI4.out (by rw[HR.out];rfl) (by rw[HR.out];rfl)
  |some a =>
   rw[LO]at hR hsx
   change ∀W,Below w.heap.size w W->Calls _ _ _ W fun e w'=>e=.returned (.tuple #[.agg (cH a).toArray,.bool true])∧Below W.heap.size W w' at hsx
   have ha:=hrg a LO
   have HA8:=h_ ha
   have hbl:=Yx a ha
   obtain⟨G,hG⟩:∃ G:gE,G={H0 with kind:=4,six:=a}:=⟨_,rfl⟩
   have hG8:G.six.length=8:=by rw[hG];exact ha
   replace hR:R=some G:=by rw[hR,hG]
   rw[<-hG]at hbl
   clear hG
   have OM:=h_ hG8;clear hG8
   have nB:=h_ hbl;clear hbl
   have HR:=h_ hR;clear hR hrg LO ha
   have Jp:=h_ hsx;clear hsx
   obtain⟨ca,hca⟩:=ap ((cH a).toArray)
   rw[<-hca]at Jp nB
   have h8:ca.size=8:=by rw[hca];simp[HA8.out]
   have hon:ca.all (·.oneCell')=true:=by rw[hca];exact Df a
   clear hca
   have HON:=h_ hon;clear hon
   go_enter func185,ntmps185
   go_wp2_with (first
    |(refine aE rfl 27 rfl _ _ (oP _) ?_)
    |(go_at_call 136;refine(uZ.out _).mono ?_;rintro e w2 ⟨rfl,hw2⟩;subst hw2)
    |(go_at_call 199;refine(Jp.out _ HI.out.bq).mono ?_;rintro e w2 ⟨rfl,hb2⟩;have HI2:=h_ (HI.out.below (ae _) hb2);clear hb2)
    |(refine aE rfl 25 rfl _ _ (oO _) ?_)
    |(refine gd rfl 25 (.tmp 6) (.tmp 19) rfl ca (cH Z8).toArray _ rfl rfl (by rw[mH,h8]) (by rw[h8];rfl) HON.out ?_;have HI3:=h_ (HI2.out.alloc (.cells ca 25) (ae _)))
    |(refine tB rfl 25 (.tmp 6) rfl ca _ rfl _ underlying25 rfl (by rw[mH,h8]) ?_)
    |(refine xr rfl 0 3 (.const (.int .i64 4)) (.tmp 24) rfl (.int .i64 4) (.agg ca) (.agg (bp G)) rfl rfl nB.out ?_)
    |(refine dH rfl (.tmp 2) (.tmp 25) rfl w w.heap.size _ G HI3.out (ae _) OM.out rfl rfl ?_;intro w4 i4;have HI4:=h_ i4;clear i4)
    |fail)
   exact UC rfl rfl HI4.out (by rw[HR.out];rfl) (by rw[HR.out];rfl)

theorem xX {tmps:Array Value} {w w2:World} {b:Nat} {h:gE} {q:Bool} (h2:tmps.getD 2 undef=.pointer (some ⟨b,0,none⟩)) (h3:tmps.getD 3 undef=.bool q) (i:yU w b h w2) {R:Option gE} (hR:h=R.getD H0) (hq:q=R.isSome) :
  bodyPost prog f186 (fun e w'=>e=vH R∧Below w.heap.size w w') Exit.ret {tmps:=tmps,defers:=[]} w2:=by
 have h2':tmps[2]?.getD undef=.pointer (some ⟨b,0,none⟩):=by simpa using h2
 have h3':tmps[3]?.getD undef=.bool q:=by simpa using h3
 have hl:=m3 w2 b h i.a i.l
 refine bodyPost_ret (v:=.tuple #[.agg (bp h),.bool q]) ?_ rfl ⟨by rw[hR,hq],i.bq⟩
 simp[results,results186,asAddr,h2',h3',hl]
theorem pC:∀ (n:Nat) (l:Bytes),l.length<=n->(lQ l).length<=l.length
 |0,l,h=>by
  obtain rfl:l=[]:=am (by omega)
  simp[lQ]
 |n+1,[],_=>by simp[lQ]
 |n+1,[c],_=>by simp[lQ]
 |n+1,[c,x],_=>by simp[lQ]
 |n+1,c::x::y::t,h=>by
  rw[lQ]
  split
  ·have:=pC n t (by simp at h;omega)
   simp;omega
  have:=pC n (x::y::t) (by simp at h ⊢;omega)
  simp at this ⊢;omega
theorem Hl (l:Bytes) (w:World) (hl:l.length<=307200000) (ht:(eA (signs (lQ l))).length<=102400000) (hn:∀ n,kY (lQ l)=some n->n.length<=102400000) (hE:Env w) :
  Calls prog 186 #[.string (bs l)] w fun e w'=>e=vH (Tc l)∧Below w.heap.size w w':=by
 have hpd:=fun W=>Ac l W (by omega)
 have hpl:=pC _ l (ae _)
 have LF:=fun W (h:Below w.heap.size w W)=>BX (lQ l) W (by omega) ht (hE.below h)
 obtain⟨R,hR⟩:=ap (Tc l)
 rw[<-hR]
 unfold Tc at hR
 obtain⟨D,hD⟩:=ap (lQ l)
 rw[<-hD]at hpd LF hR hn
 clear hD hpl ht hl
 obtain⟨s,hs⟩:=ap (bs l)
 rw[<-hs]at hpd ⊢
 clear hs
 have HPD:=h_ hpd;clear hpd
 have Oc:=h_ hE;clear hE
 have HI:=h_ (qu w)
 cases hd:kY D with
 |none =>
  rw[hd]at hR LF
  have HR:=h_ (show R=none from hR);clear hR hn hd
  change ∀W,Below w.heap.size w W->Calls _ _ _ W fun e w'=>e=.returned (.tuple #[S [],.bool false])∧Below W.heap.size W w' at LF
  have HDM:=h_ LF;clear LF
  go_enter func186,ntmps186
  go_wp2_with (first
   |(refine aE rfl 27 rfl _ _ (oP _) ?_)
   |(go_at_call 201;refine(HPD.out _).mono ?_;rintro e w2 ⟨v,rfl,ho2,hb2⟩;have Xx:=h_ (md (P:=prog) (src:=50) (dst:=9) underlying50 underlying5 underlying9 ho2);have hcv:=Xx.out;clear ho2;have HI2:=h_ (HI.out.below (ae _) hb2);clear hb2)
   |(go_at_call 200;refine(HDM.out _ HI2.out.bq).mono ?_;rintro e w3 ⟨rfl,hb3⟩;have HI3:=h_ (HI2.out.below (ae _) hb3);clear hb3)
   |(refine bG rfl 27 #[] rfl (.agg (bp H0)) #[] rfl nI ?_)
   |(refine dH rfl (.tmp 2) (.tmp 22) rfl w w.heap.size _ H0 HI3.out (ae _) rfl rfl rfl ?_;intro w4 i4;have HI4:=h_ i4;clear i4)
   |fail)
  exact xX rfl rfl HI4.out (by rw[HR.out];rfl) (by rw[HR.out];rfl)
 |some n =>
  rw[hd]at hR LF
  have hnm:=hn n hd
  replace hR:R=if n=[]then none else if n.any (fun x=>Fd (b2 x))=true then none else if vw n=true then(match mo n with|none=>none|some v=>some {H0 with kind:=3,four:=v})else some {H0 with kind:=2,name:=n}:=hR
  have hen:=fun W (h:Below w.heap.size w W)=>KX n W hnm (Oc.out.below h)
  have hfp:=fun W (h:Below w.heap.size w W)=>Cn n W hnm (Oc.out.below h)
  have hyes:∀ k (hk:k<n.length),Fd (b2 n[k])=true->(n.any fun x=>Fd (b2 x))=true:=fun k hk h=>Ef (f:=fun x=>Fd (b2 x)) hk h
  have hno:(∀k (hk:k<n.length),Fd (b2 n[k])=false)->(n.any fun x=>Fd (b2 x))=false:=fun h=>JW (f:=fun x=>Fd (b2 x)) h
  have hb2:=Yv n
  obtain⟨G2,hG2⟩:∃ G:gE,G={H0 with kind:=2,name:=n}:=⟨_,rfl⟩
  have Vj:G2.six.length=8:=by rw[hG2];rfl
  rw[<-hG2]at hb2 hR
  clear hG2
  obtain⟨u,hu⟩:=ap (bs n)
  change ∀W,Below w.heap.size w W->Calls _ _ _ W fun e w'=>e=.returned (.tuple #[.string (bs n),.bool true])∧Below W.heap.size W w' at LF
  rw[<-hu]at LF hen hfp hb2
  have hsz:u.size=n.length:=by rw[hu,aB]
  have hby:∀ k (hk:k<u.size) (hk2:k<n.length),((u[k]'hk).toNat:Int)=b2 n[k]:=fun k hk hk2=>bV hu hk hk2
  have hue:(u.toList=[]) ↔ n=[]:=by rw[hu,au]
  clear hu hn hd
  have HDM:=h_ LF;clear LF
  by_cases hnil:n=[]
  ·rw[if_pos hnil]at hR
   have he2:=hue.mpr hnil
   have he:u.toList.isEmpty=true:=by rw[he2];rfl
   have HR:=h_ hR;clear hR hen hfp hyes hno hb2 hby hue hnil hsz Vj
   go_enter func186,ntmps186
   go_wp2_with (first
   |(refine aE rfl 27 rfl _ _ (oP _) ?_)
   |(go_at_call 201;refine(HPD.out _).mono ?_;rintro e w2 ⟨v,rfl,ho2,hb2⟩;have Xx:=h_ (md (P:=prog) (src:=50) (dst:=9) underlying50 underlying5 underlying9 ho2);have hcv:=Xx.out;clear ho2;have HI2:=h_ (HI.out.below (ae _) hb2);clear hb2)
   |(go_at_call 200;refine(HDM.out _ HI2.out.bq).mono ?_;rintro e w3 ⟨rfl,hb3⟩;have HI3:=h_ (HI2.out.below (ae _) hb3);clear hb3)
   |(refine bG rfl 27 #[] rfl (.agg (bp H0)) #[] rfl nI ?_)
   |(refine dH rfl (.tmp 2) (.tmp 22) rfl w w.heap.size _ H0 HI3.out (ae _) rfl rfl rfl ?_;intro w4 i4;have HI4:=h_ i4;clear i4)
   |fail)
   exact xX rfl rfl HI4.out (by rw[HR.out];rfl) (by rw[HR.out];rfl)
  rw[if_neg hnil]at hR
  have he2:¬ u.toList=[]:=fun h=>hnil (hue.mp h)
  have he:u.toList.isEmpty=false:=by simpa using he2
  obtain⟨N,hN⟩:=ap (u.size)
  have jF:u.size=N:=hN.symm
  have pg:N<=102400000:=by omega
  have e7:=h_ (show N=n.length by omega);clear hN hsz hnm hue hnil
  have fF:=h_ hby;clear hby
  have Uc:=h_ hyes;clear hyes
  have OT:=h_ hno;clear hno
  have HR:=h_ hR;clear hR
  have xf:=h_ hen;clear hen
  have Rz:=h_ hfp;clear hfp
  have HB2:=h_ hb2;clear hb2
  have a15:=h_ Vj;clear Vj
  go_enter func186,ntmps186
  go_wp2_with (first
   |(refine aE rfl 27 rfl _ _ (oP _) ?_)
   |(go_at_call 201;refine(HPD.out _).mono ?_;rintro e w2 ⟨v,rfl,ho2,hb2⟩;have Xx:=h_ (md (P:=prog) (src:=50) (dst:=9) underlying50 underlying5 underlying9 ho2);have hcv:=Xx.out;clear ho2;have HI2:=h_ (HI.out.below (ae _) hb2);clear hb2)
   |(go_at_call 200;refine(HDM.out _ HI2.out.bq).mono ?_;rintro e w3 ⟨rfl,hb3⟩;have HI3:=h_ (HI2.out.below (ae _) hb3);clear hb3)
   |fail)
  go_loopw [25] (fun iv wr=>∃ k:Nat,k<=N∧iv=.int .i64 k∧Hid (∀j (hj:j<n.length),j<k->Fd (b2 n[j])=false)∧w3=wr) (fun i _=>N-(intOf i).toNat)
  case atStart=>exact⟨0,aO _,by simp,fun j _ h=>absurd h (bE j),rfl⟩
  case round =>
   obtain⟨k,hk,rfl,hall,rfl⟩:=hrel
   by_cases hlt:k<N
   ·have lV:k<u.size:=by rw[jF];exact hlt
    have hkl:k<n.length:=by have:=e7.out;omega
    have hx:=fF.out k lV hkl
    have hy:Fd (b2 n[k])=true->R=none:=fun h=>by rw[HR.out,if_pos (Uc.out k hkl h)]
    have hsn:Fd (b2 n[k])=false->∀ j (hj:j<n.length),j<k+1->Fd (b2 n[j])=false:=fun h j hj h1=>by
     rcases cU j k with h2|h2
     ·exact hall.out j hj h2
     obtain rfl:j=k:=by omega
     exact h
    have hbd:=fun W=>Es (b2 n[k]) W
    generalize b2 n[k]=X at hx hy hsn hbd
    have qR:=h_ hbd;clear hbd hall
    have hdef:Fd X=(lL X||decide (X<32∨X=37∨X=127)):=rfl
    rw[hdef]at hy hsn
    clear hdef
    obtain⟨q,hq⟩:=ap (lL X)
    rw[<-hq]at hy hsn qR
    have HQ:=h_ hq;clear hq
    cases q with
    |true =>
     have HF:=h_ (hy rfl);clear hy hsn
     go_wp2_with (first
      |(go_at_call 187;refine(qR.out _).mono ?_;rintro e w4 ⟨rfl,hw4⟩;subst hw4)
      |(refine bG rfl 27 #[] rfl (.agg (bp H0)) #[] rfl nI ?_)
      |(refine dH rfl (.tmp 2) (.tmp 45) rfl w w.heap.size _ H0 HI3.out (ae _) rfl rfl rfl ?_;intro w5 i5;have yJ:=h_ i5;clear i5)
      |fail)
     exact xX rfl rfl yJ.out (by rw[HF.out];rfl) (by rw[HF.out];rfl)
    |false =>
     by_cases h1:X<32
     ·have HF:=h_ (hy (by simp[h1]));clear hy hsn
      go_wp2_with (first
       |(go_at_call 187;refine(qR.out _).mono ?_;rintro e w4 ⟨rfl,hw4⟩;subst hw4)
       |(refine bG rfl 27 #[] rfl (.agg (bp H0)) #[] rfl nI ?_)
       |(refine dH rfl (.tmp 2) (.tmp 45) rfl w w.heap.size _ H0 HI3.out (ae _) rfl rfl rfl ?_;intro w5 i5;have yJ:=h_ i5;clear i5)
       |fail)
      exact xX rfl rfl yJ.out (by rw[HF.out];rfl) (by rw[HF.out];rfl)
     by_cases h2:X=37
     ·have HF:=h_ (hy (by simp[h2]));clear hy hsn
      subst h2
      go_wp2_with (first
       |(go_at_call 187;refine(qR.out _).mono ?_;rintro e w4 ⟨rfl,hw4⟩;subst hw4)
       |(refine bG rfl 27 #[] rfl (.agg (bp H0)) #[] rfl nI ?_)
       |(refine dH rfl (.tmp 2) (.tmp 45) rfl w w.heap.size _ H0 HI3.out (ae _) rfl rfl rfl ?_;intro w5 i5;have yJ:=h_ i5;clear i5)
       |fail)
      exact xX rfl rfl yJ.out (by rw[HF.out];rfl) (by rw[HF.out];rfl)
     have q2:(X==37)=false:=by simpa using h2
     by_cases h3:X=127
     ·have HF:=h_ (hy (by simp[h3]));clear hy hsn
      subst h3
      go_wp2_with (first
       |(go_at_call 187;refine(qR.out _).mono ?_;rintro e w4 ⟨rfl,hw4⟩;subst hw4)
       |(refine bG rfl 27 #[] rfl (.agg (bp H0)) #[] rfl nI ?_)
       |(refine dH rfl (.tmp 2) (.tmp 45) rfl w w.heap.size _ H0 HI3.out (ae _) rfl rfl rfl ?_;intro w5 i5;have yJ:=h_ i5;clear i5)
       |fail)
      exact xX rfl rfl yJ.out (by rw[HF.out];rfl) (by rw[HF.out];rfl)
     have q3:(X==127)=false:=by simpa using h3
     have HS:=h_ (hsn (by simp[h1,h2,h3]));clear hy hsn
     go_wp2_with (first
      |(go_at_call 187;refine(qR.out _).mono ?_;rintro e w4 ⟨rfl,hw4⟩;subst hw4)
      |fail)
     go_roundw
     case rel=>exact⟨k+1,by omega,by simp,HS.out,by trivial⟩
     case measure=>simp[intOf];omega
   obtain rfl:k=N:=by omega
   have hr:=HR.out
   rw[if_neg (by rw[OT.out (fun j hj=>hall.out j hj (by have:=e7.out;omega))];simp)]at hr
   clear HR
   cases hef:vw n with
   |false =>
    rw[hef,if_neg (by simp)]at hr
    rw[hef]at xf
    have HR:=h_ hr;clear hr hef hall
    go_wp2_with (first
     |(go_at_call 202;refine(xf.out _ HI3.out.bq).mono ?_;rintro e w4 ⟨rfl,hb4⟩;have HI4:=h_ (HI3.out.below (ae _) hb4);clear hb4)
     |(refine xr rfl 0 1 (.const (.int .i64 2)) (.tmp 50) rfl (.int .i64 2) (.string u) (.agg (bp G2)) rfl rfl HB2.out ?_)
     |(refine dH rfl (.tmp 2) (.tmp 51) rfl w w.heap.size _ G2 HI4.out (ae _) a15.out rfl rfl ?_;intro w5 i5;have yJ:=h_ i5;clear i5)
     |fail)
    exact xX rfl rfl yJ.out (by rw[HR.out];rfl) (by rw[HR.out];rfl)
   |true =>
    rw[hef,if_pos rfl]at hr
    rw[hef]at xf
    cases hfq:mo n with
    |none =>
     rw[hfq]at hr Rz
     have HR:=h_ (show R=none from hr);clear hr hef hall hfq
     replace Rz:=h_ (show ∀W,Below w.heap.size w W->Calls prog 203 #[.string u] W fun e w'=>e=.returned (.tuple #[.int .u32 0,.bool false])∧Below W.heap.size W w' from Rz.out)
     go_wp2_with (first
      |(go_at_call 202;refine(xf.out _ HI3.out.bq).mono ?_;rintro e w4 ⟨rfl,hb4⟩;have HI4:=h_ (HI3.out.below (ae _) hb4);clear hb4)
      |(go_at_call 203;refine(Rz.out _ HI4.out.bq).mono ?_;rintro e w5 ⟨rfl,hb5⟩;have yJ:=h_ (HI4.out.below (ae _) hb5);clear hb5)
      |(refine bG rfl 27 #[] rfl (.agg (bp H0)) #[] rfl nI ?_)
      |(refine dH rfl (.tmp 2) (.tmp 59) rfl w w.heap.size _ H0 yJ.out (ae _) rfl rfl rfl ?_;intro w6 i6;have HI6:=h_ i6;clear i6)
      |fail)
     exact xX rfl rfl HI6.out (by rw[HR.out];rfl) (by rw[HR.out];rfl)
    |some v =>
     rw[hfq]at hr Rz
     have hb3:=Yw v
     obtain⟨G3,hG3⟩:∃ G:gE,G={H0 with kind:=3,four:=v}:=⟨_,rfl⟩
     have Y4:G3.six.length=8:=by rw[hG3];rfl
     replace hr:R=some G3:=by rw[hr,hG3]
     rw[<-hG3]at hb3
     clear hG3
     have HB3:=h_ hb3;clear hb3
     have a16:=h_ Y4;clear Y4
     have HR:=h_ hr;clear hr hef hall hfq
     replace Rz:=h_ (show ∀W,Below w.heap.size w W->Calls prog 203 #[.string u] W fun e w'=>e=.returned (.tuple #[.int .u32 v,.bool true])∧Below W.heap.size W w' from Rz.out)
     go_wp2_with (first
      |(go_at_call 202;refine(xf.out _ HI3.out.bq).mono ?_;rintro e w4 ⟨rfl,hb4⟩;have HI4:=h_ (HI3.out.below (ae _) hb4);clear hb4)
      |(go_at_call 203;refine(Rz.out _ HI4.out.bq).mono ?_;rintro e w5 ⟨rfl,hb5⟩;have yJ:=h_ (HI4.out.below (ae _) hb5);clear hb5)
      |(refine xr rfl 0 2 (.const (.int .i64 3)) (.tmp 60) rfl (.int .i64 3) (.int .u32 v) (.agg (bp G3)) rfl rfl HB3.out ?_)
      |(refine dH rfl (.tmp 2) (.tmp 61) rfl w w.heap.size _ G3 yJ.out (ae _) a16.out rfl rfl ?_;intro w6 i6;have HI6:=h_ i6;clear i6)
      |fail)
     exact xX rfl rfl HI6.out (by rw[HR.out];rfl) (by rw[HR.out];rfl)

theorem Nc {tmps:Array Value} {w w2:World} {b:Nat} {h:gE} {q:Bool} (h2:tmps.getD 4 undef=.pointer (some ⟨b,0,none⟩)) (h3:tmps.getD 5 undef=.bool q) (i:yU w b h w2) {R:Option gE} (hR:h=R.getD H0) (hq:q=R.isSome) :
  bodyPost prog f160 (fun e w'=>e=vH R∧Below w.heap.size w w') Exit.ret {tmps:=tmps,defers:=[]} w2:=by
 have h2':tmps[4]?.getD undef=.pointer (some ⟨b,0,none⟩):=by simpa using h2
 have h3':tmps[5]?.getD undef=.bool q:=by simpa using h3
 have hl:=m3 w2 b h i.a i.l
 refine bodyPost_ret (v:=.tuple #[.agg (bp h),.bool q]) ?_ rfl ⟨by rw[hR,hq],i.bq⟩
 simp[results,results160,asAddr,h2',h3',hl]
theorem Pk {s:Bytes}:((SE s).getD H0).six.length=8:=by
 unfold SE
 split
 ·cases h:nO (Lib.trimSuffix s [93])with
  |none=>rfl
  |some a=>exact(lr h).1
 rfl
theorem Qx {s:Bytes}:((Tc s).getD H0).six.length=8:=by
 unfold Tc
 split
 ·rfl
 split
 ·rfl
 split
 ·rfl
 split
 ·split <;>rfl
 rfl
theorem a4j (l:Bytes):Lib.hasPrefix l [91]=decide (l.head? = some 91):=by
 cases l with
 |nil=>rfl
 |cons x r =>
  show((91==x)&&true)=_
  rw[lH,cg]
  simp only[beq_iff_eq,mM,ko,decide_eq_true_eq]
  exact eq_comm
structure Short (l:Bytes):Prop where
 sl:l.length<=307200000
 st:(eA (signs (lQ l))).length<=102400000
 sn:∀ n,kY (lQ l)=some n->n.length<=102400000
theorem Ay {l:Bytes} (h:l.length<=1048576):Short l:=by
 have h1:=pC _ l (ae _)
 have h2:=pO (signs (lQ l))
 have h3:=kD _ (lQ l) (ae _)
 exact⟨by omega,by omega,fun n hn=>by have:=zt hn;omega⟩
theorem tc (l:Bytes) (sp:Bool) (w:World) (hS:Short l) (hE:Env w):Calls prog 160 #[.string (bs l),.bool sp] w fun e w'=>e=vH (el l sp)∧Below w.heap.size w w':=by
 obtain⟨hl,hst,hsn⟩:=hS
 have Cr:=fun W=>n7 l [91] W
 rw[show bs [91]=⟨#[91]⟩from rfl,a4j]at Cr
 have hbr:=fun W (h:Below w.heap.size w W)=>uQ (l.drop 1) W (by rw[ai];omega) (hE.below h)
 have hnm:=fun W (h:Below w.heap.size w W)=>Hl l W hl hst hsn (hE.below h)
 have hpe:=fun W=>eo 0 l W (by omega)
 obtain⟨R,hR⟩:=ap (el l sp)
 rw[<-hR]
 unfold el at hR
 have hyes:∀ k (hk:k<l.length),lL (b2 l[k])=true->(l.any fun x=>lL (b2 x))=true:=fun k hk h=>Ef (f:=fun x=>lL (b2 x)) hk h
 have hno:(∀k (hk:k<l.length),lL (b2 l[k])=false)->(l.any fun x=>lL (b2 x))=false:=fun h=>JW (f:=fun x=>lL (b2 x)) h
 obtain⟨s,hs⟩:=ap (bs l)
 have hsz:s.size=l.length:=by rw[hs,aB]
 have hby:∀ k (hk:k<s.size) (hk2:k<l.length),((s[k]'hk).toNat:Int)=b2 l[k]:=fun k hk hk2=>bV hs hk hk2
 have hue:(s.toList=[]) ↔ l=[]:=by rw[hs,au]
 have hex:s.extract 1 s.size=bs (l.drop 1):=by rw[hs,bM,aB,aI (by rw[ai];omega)]
 rw[<-hs]at Cr hnm hpe ⊢
 clear hs hst hsn hE
 obtain⟨N,hN⟩:=ap (s.size)
 have jF:s.size=N:=hN.symm
 rw[jF]at hex
 have pg:N<=307200000:=by omega
 have mW:N=l.length:=by omega
 clear hN hsz hl
 have HI:=h_ (qu w)
 by_cases Vh:l.head? = some 91
 ·rw[if_pos Vh]at hR
  rw[decide_eq_true Vh]at Cr
  have hN1:1<=N:=by
   cases l with
   |nil=>cases Vh
   |cons x r=>rw[mW];simp
  obtain⟨u,hu⟩:=ap (bs (l.drop 1))
  rw[<-hu]at hex hbr
  have OM:=h_ (Pk (s:=l.drop 1))
  obtain⟨B,hB⟩:=ap (SE (l.drop 1))
  rw[<-hB]at hR hbr OM
  clear hB hu Vh hnm hpe hyes hno hby hue mW
  obtain⟨G,hG⟩:=ap (B.getD H0)
  obtain⟨q,hq⟩:=ap (B.isSome)
  have HBR:=h_ (show ∀W,Below w.heap.size w W->Calls prog 185 #[.string u] W fun e w'=>e=.returned (.tuple #[.agg (bp G),.bool q])∧Below W.heap.size W w' from by rw[hG,hq];exact hbr)
  rw[<-hG]at OM
  have HR:=h_ (show G=R.getD H0∧q=R.isSome by rw[hR];exact⟨hG,hq⟩)
  have IG:=h_ Cr
  clear Cr hbr hR hG hq
  go_enter func160,ntmps160
  go_wp2_with (first
   |(refine aE rfl 27 rfl _ _ (oP _) ?_)
   |(go_at_call 57;refine(IG.out _).mono ?_;rintro e w2 ⟨rfl,hw2⟩;subst hw2)
   |(go_at_call 185;refine(HBR.out _ HI.out.bq).mono ?_;rintro e w2 ⟨rfl,hb2⟩;have HI2:=h_ (HI.out.below (ae _) hb2);clear hb2)
   |(refine dH rfl (.tmp 4) (.tmp 12) rfl w w.heap.size _ G HI2.out (ae _) OM.out rfl rfl ?_;intro w4 i4;have HI4:=h_ i4;clear i4)
   |fail)
  exact Nc rfl rfl HI4.out HR.out.1 HR.out.2
 rw[if_neg Vh]at hR
 rw[decide_eq_false Vh]at Cr
 have IG:=h_ Cr
 clear Cr hbr hex Vh
 cases sp with
 |true =>
  rw[if_pos rfl]at hR
  have OM:=h_ (Qx (s:=l))
  obtain⟨B,hB⟩:=ap (Tc l)
  rw[<-hB]at hR hnm OM
  clear hB hpe hyes hno hby hue mW
  obtain⟨G,hG⟩:=ap (B.getD H0)
  obtain⟨q,hq⟩:=ap (B.isSome)
  have lS:=h_ (show ∀W,Below w.heap.size w W->Calls prog 186 #[.string s] W fun e w'=>e=.returned (.tuple #[.agg (bp G),.bool q])∧Below W.heap.size W w' from by rw[hG,hq];exact hnm)
  rw[<-hG]at OM
  have HR:=h_ (show G=R.getD H0∧q=R.isSome by rw[hR];exact⟨hG,hq⟩)
  clear hnm hR hG hq
  go_enter func160,ntmps160
  go_wp2_with (first
   |(refine aE rfl 27 rfl _ _ (oP _) ?_)
   |(go_at_call 57;refine(IG.out _).mono ?_;rintro e w2 ⟨rfl,hw2⟩;subst hw2)
   |(go_at_call 186;refine(lS.out _ HI.out.bq).mono ?_;rintro e w2 ⟨rfl,hb2⟩;have HI2:=h_ (HI.out.below (ae _) hb2);clear hb2)
   |(refine dH rfl (.tmp 4) (.tmp 17) rfl w w.heap.size _ G HI2.out (ae _) OM.out rfl rfl ?_;intro w4 i4;have HI4:=h_ i4;clear i4)
   |fail)
  exact Nc rfl rfl HI4.out HR.out.1 HR.out.2
 |false =>
  rw[if_neg (by simp)]at hR
  clear hnm
  by_cases hnil:l=[]
  ·rw[if_pos hnil]at hR
   have he2:=hue.mpr hnil
   have he:s.toList.isEmpty=true:=by rw[he2];rfl
   have HR:=h_ hR;clear hR hpe hyes hno hby hue hnil mW
   go_enter func160,ntmps160
   go_wp2_with (first
    |(refine aE rfl 27 rfl _ _ (oP _) ?_)
    |(go_at_call 57;refine(IG.out _).mono ?_;rintro e w2 ⟨rfl,hw2⟩;subst hw2)
    |(refine UG rfl 0 (.const (.int .i64 1)) rfl (.int .i64 1) (.agg (bp {H0 with kind:=1})) rfl Yu ?_)
    |(refine dH rfl (.tmp 4) (.tmp 21) rfl w w.heap.size _ {H0 with kind:=1} HI.out (ae _) rfl rfl rfl ?_;intro w4 i4;have HI4:=h_ i4;clear i4)
    |fail)
   exact Nc rfl rfl HI4.out (by rw[HR.out];rfl) (by rw[HR.out];rfl)
  rw[if_neg hnil]at hR
  have he2:¬ s.toList=[]:=fun h=>hnil (hue.mp h)
  have he:s.toList.isEmpty=false:=by simpa using he2
  have hb5:=Yy (df 0 l)
  obtain⟨G5,hG5⟩:∃ G:gE,G={H0 with kind:=5,name:=df 0 l}:=⟨_,rfl⟩
  have Y5:G5.six.length=8:=by rw[hG5];rfl
  rw[<-hG5]at hb5 hR
  obtain⟨c,hc⟩:=ap (bs (df 0 l))
  have HPE:=h_ (show ∀W,Calls prog 132 #[.string s,.int .i64 0] W fun e w'=>e=.returned (.string c)∧Below W.heap.size W w' from by rw[hc];exact hpe)
  rw[<-hc]at hb5
  clear hG5 hpe hc hue hnil
  have e7:=h_ mW;clear mW
  have fF:=h_ hby;clear hby
  have Uc:=h_ hyes;clear hyes
  have OT:=h_ hno;clear hno
  have HR:=h_ hR;clear hR
  have fK:=h_ hb5;clear hb5
  have a18:=h_ Y5;clear Y5
  go_enter func160,ntmps160
  go_wp2_with (first
   |(refine aE rfl 27 rfl _ _ (oP _) ?_)
   |(go_at_call 57;refine(IG.out _).mono ?_;rintro e w2 ⟨rfl,hw2⟩;subst hw2)
   |fail)
  go_loopw [24] (fun iv wr=>∃ k:Nat,k<=N∧iv=.int .i64 k∧Hid (∀j (hj:j<l.length),j<k->lL (b2 l[j])=false)∧wr=w.alloc (.cells (bp H0) 27)) (fun i _=>N-(intOf i).toNat)
  case atStart=>exact⟨0,aO _,by simp,fun j _ h=>absurd h (bE j),rfl⟩
  case round =>
   obtain⟨k,hk,rfl,hall,rfl⟩:=hrel
   by_cases hlt:k<N
   ·have lV:k<s.size:=by rw[jF];exact hlt
    have hkl:k<l.length:=by have:=e7.out;omega
    have hx:=fF.out k lV hkl
    have hy:lL (b2 l[k])=true->R=none:=fun h=>by rw[HR.out,if_pos (Uc.out k hkl h)]
    have hsn:lL (b2 l[k])=false->∀ j (hj:j<l.length),j<k+1->lL (b2 l[j])=false:=fun h j hj h1=>by
     rcases cU j k with h2|h2
     ·exact hall.out j hj h2
     obtain rfl:j=k:=by omega
     exact h
    have hbd:=fun W=>Es (b2 l[k]) W
    generalize b2 l[k]=X at hx hy hsn hbd
    have qR:=h_ hbd;clear hbd hall
    cases hq:lL X with
    |true =>
     have HF:=h_ (hy hq)
     rw[hq]at qR
     clear hy hsn hq
     go_wp2_with (first
      |(go_at_call 187;refine(qR.out _).mono ?_;rintro e w4 ⟨rfl,hw4⟩;subst hw4)
      |(refine bG rfl 27 #[] rfl (.agg (bp H0)) #[] rfl nI ?_)
      |(refine dH rfl (.tmp 4) (.tmp 31) rfl w w.heap.size _ H0 HI.out (ae _) rfl rfl rfl ?_;intro w5 i5;have yJ:=h_ i5;clear i5)
      |fail)
     exact Nc rfl rfl yJ.out (by rw[HF.out];rfl) (by rw[HF.out];rfl)
    |false =>
     have HS:=h_ (hsn hq)
     rw[hq]at qR
     clear hy hsn hq
     go_wp2_with (first
      |(go_at_call 187;refine(qR.out _).mono ?_;rintro e w4 ⟨rfl,hw4⟩;subst hw4)
      |fail)
     go_roundw
     case rel=>exact⟨k+1,by omega,by simp,HS.out,by first|rfl|trivial⟩
     case measure=>simp[intOf];omega
   obtain rfl:k=N:=by omega
   have hr:=HR.out
   rw[if_neg (by rw[OT.out (fun j hj=>hall.out j hj (by have:=e7.out;omega))];simp)]at hr
   have HR:=h_ hr;clear hr hall
   go_wp2_with (first
    |(go_at_call 132;refine(HPE.out _).mono ?_;rintro e w4 ⟨rfl,hb4⟩;have HI4:=h_ (HI.out.below (ae _) hb4);clear hb4)
    |(refine xr rfl 0 1 (.const (.int .i64 5)) (.tmp 34) rfl (.int .i64 5) (.string c) (.agg (bp G5)) rfl rfl fK.out ?_)
    |(refine dH rfl (.tmp 4) (.tmp 35) rfl w w.heap.size _ G5 HI4.out (ae _) a18.out rfl rfl ?_;intro w5 i5;have yJ:=h_ i5;clear i5)
    |fail)
   exact Nc rfl rfl yJ.out (by rw[HR.out];rfl) (by rw[HR.out];rfl)

theorem vi:∀ n∈Z8,0<=n∧n<65536:=by decide
theorem mr {s:Bytes} {sp:Bool} {h:gE} (e:qT s sp h):Js h:=by
 cases e with
 |six a h8 ha hs=>exact⟨by simp,by simp[H0],h8,ha⟩
 |name n e hs hd hn hb he=>exact⟨by simp,by simp[H0],rfl,vi⟩
 |four n e hs h=>exact⟨by simp,⟨by simp,by simp only;omega⟩,rfl,vi⟩
 |empty e h=>exact⟨by simp,by simp[H0],rfl,vi⟩
 |V4 e hs h hb=>exact⟨by simp,by simp[H0],rfl,vi⟩
theorem Rq:Js H0:=⟨by simp[H0],by simp[H0],rfl,vi⟩
theorem QG (s:Bytes):(df 0 s).length<=3*s.length:=fB 0 s

structure oL where
 user:Bytes
 pass:Bytes
 host:gE
 aZ:Bool
 port:Int
def A0:oL:=⟨[],[],H0,false,0⟩
def ep (s:Bytes):Bool:=s == [102,116,112]||s == [102,105,108,101]||s == [104,116,116,112]||s == [104,116,116,112,115]||s == [119,115]||s == [119,115,115]
def Dh (s:Bytes):Option Int :=
 if s=[102,116,112]then some 21 else if s=[104,116,116,112]∨s=[119,115]then some 80 else if s=[104,116,116,112,115]∨s=[119,115,115]then some 443 else none
def jN:Int->Bytes->Option Int
 |n,[]=>some n
 |n,c::t=>if eF (b2 c) 10<0 then none else jN (if(9223372036854775807-eF (b2 c) 10)/10<n then 9223372036854775807 else n*10+eF (b2 c) 10) t
def cR (s:Bytes):Option Int:=if s=[]then none else jN 0 s
def Pe (aC s:Bytes):Option (Int×Bool) :=
 if s=[]then some (0,false)else match cR s with
  |none=>none
  |some n=>if 65535<n then none else if Dh aC=some n then some (0,false)else some (n,true)
def xl:Bytes->Option (Bytes×Bytes)
 | []=>none
 |c::t=>match xl t with|some (a,b)=>some (c::a,b)|none=>if c=64 then some ([],t)else none
def oV:Bytes->Bytes×Bytes
 | []=>([],[])
 |c::t=>if c=58 then([],t)else(c::(oV t).1,(oV t).2)
def Kx:Bool->Bytes->Option (Bytes×Bytes)
 |_,[]=>none
 |i,c::t=>if c=58∧i=false then some ([],t)else(Kx (if c=91 then true else if c=93 then false else i) t).map fun p=>(c::p.1,p.2)
def zJ (aC n q u p:Bytes):Option oL:=match el n (ep aC)with
 |none=>none
 |some h=>match Pe aC q with|none=>none|some (k,b)=>some ⟨u,p,h,b,k⟩
def ri (aC s u p:Bytes):Option oL:=match Kx false s with
 |some (n,q)=>if n=[]then none else zJ aC n q u p
 |none=>zJ aC s [] u p
def jk (aC s:Bytes):Option oL:=match xl s with
 |none=>ri aC s [] []
 |some (who,rest)=>if rest=[]then none else ri aC rest (df 5 (oV who).1) (df 5 (oV who).2)
theorem xm:∀ {s:Bytes},(64:UInt8)∉s->xl s=none
 | [],_=>rfl
 |c::t,h=>by
  rw[xl,xm (s:=t) (fun h2=>h (by simp[h2]))]
  dsimp only
  rw[if_neg (fun e=>h (by simp[e]))]
theorem J4 (a:Bytes) {b:Bytes} (h:(64:UInt8)∉b):xl (a++64::b)=some (a,b):=by
 induction a with
 |nil=>rw[bW,xl,xm h];rfl
 |cons x r ih=>rw[bI,xl,ih]
theorem Sm:∀ {s a b:Bytes},xl s=some (a,b)->s=a++64::b∧(64:UInt8)∉b
 | [],_,_,h=>by cases h
 |c::t,a,b,h=>by
  rw[xl]at h
  cases ht:xl t with
  |some p =>
   obtain⟨a',b'⟩:=p
   rw[ht]at h
   injection h with h
   injection h with h1 h2
   subst h1;subst h2
   obtain⟨e,hn⟩:=Sm ht
   exact⟨by rw[e];rfl,hn⟩
  |none =>
   rw[ht]at h
   dsimp only at h
   split at h
   ·next hc =>
    injection h with h
    injection h with h1 h2
    subst h1;subst h2;subst hc
    refine⟨rfl,fun hm=>?_⟩
    have key:∀ t:Bytes,(64:UInt8)∈t->xl t≠none:=by
     intro t
     induction t with
     |nil=>intro h;cases h
     |cons x r ih =>
      intro hx e
      rw[xl]at e
      cases hr:xl r with
      |some p=>rw[hr]at e;cases e
      |none =>
       rw[hr]at e
       dsimp only at e
       rcases aN.mp hx with hx|hx
       ·rw[if_pos hx.symm]at e;cases e
       exact ih hx hr
    exact key _ hm ht
   cases h

theorem KE (u:Nat):Lib.decDigits u ≠ []:=by
 intro h
 have h1:=Lib.decDigits_length u
 have h2:=Lib.nDigits_pos u
 rw[h]at h1
 simp at h1
 omega
theorem Fz:∀ (l:Bytes) (n v:Int),0<=n->jN n l=some v->0<=v
 | [],n,v,h,e=>by rw[jN]at e;injection e with e;omega
 |c::t,n,v,h,e=>by
  rw[jN]at e
  split at e
  ·cases e
  next hd =>
  refine Fz t _ v ?_ e
  split <;>omega
theorem Yl {aC q:Bytes} {k:Int} {b:Bool} (h:Pe aC q=some (k,b)):(b=false∧k=0)∨(b=true∧0<=k∧k<=65535∧Dh aC≠some k∧q ≠ []):=by
 unfold Pe at h
 split at h
 ·injection h with h;injection h with h1 h2;exact .inl ⟨h2.symm,h1.symm⟩
 next hq =>
 cases hw:cR q with
 |none=>rw[hw]at h;cases h
 |some n =>
  rw[hw]at h
  dsimp only at h
  split at h
  ·cases h
  next hn =>
  split at h
  ·injection h with h;injection h with h1 h2;exact .inl ⟨h2.symm,h1.symm⟩
  next ho =>
  injection h with h;injection h with h1 h2
  subst h1
  unfold cR at hw
  rw[if_neg hq]at hw
  have:=Fz q 0 n (by omega) hw
  exact .inr ⟨h2.symm,this,by omega,ho,hq⟩
theorem zk (u:Nat):∀ y∈Lib.decDigits u,48<=b2 y∧b2 y<=57:=by
 induction u using Nat.strongRecOn with
 |ind u ih =>
  have key:∀ k:Fin 10,48<=b2 (UInt8.ofNat (48+k.val))∧b2 (UInt8.ofNat (48+k.val))<=57:=by decide +kernel
  intro y hy
  by_cases h1:u<10
  ·rw[Lib.decDigits_one h1]at hy
   rw[da.mp hy]
   exact key ⟨u,h1⟩
  have e:Lib.decDigits u=Lib.decDigits (u/10)++[UInt8.ofNat (48+u%10)]:=by rw[Lib.decDigits,dif_neg h1]
  rw[e]at hy
  rcases bl.mp hy with hy|hy
  ·exact ih (u/10) (by omega) y hy
  rw[da.mp hy]
  exact key ⟨u%10,by omega⟩
structure AOk (aC:Bytes) (a:oL):Prop where
 h:∃ n,el n (ep aC)=some a.host∧(n=[]->a.user=[]∧a.pass=[]∧a.aZ=false)
 u:∃ x,a.user=df 5 x
 p:∃ x,a.pass=df 5 x
 q:(a.aZ=false∧a.port=0)∨(a.aZ=true∧0<=a.port∧a.port<=65535∧Dh aC≠some a.port)
theorem Li {aC n q u p:Bytes} {a:oL} (h:zJ aC n q u p=some a) (hu:∃ x,u=df 5 x) (hp:∃ x,p=df 5 x) (hn:n=[]->u=[]∧p=[]∧q=[]):AOk aC a:=by
 unfold zJ at h
 cases hh:el n (ep aC)with
 |none=>rw[hh]at h;cases h
 |some g =>
  rw[hh]at h
  dsimp only at h
  cases hq:Pe aC q with
  |none=>rw[hq]at h;cases h
  |some v =>
   obtain⟨k,b⟩:=v
   rw[hq]at h
   injection h with h
   subst h
   have hk:=Yl hq
   refine⟨⟨n,hh,fun e=>?_⟩,hu,hp,?_⟩
   ·obtain⟨h1,h2,h3⟩:=hn e
    refine⟨h1,h2,?_⟩
    rcases hk with hk|hk
    ·exact hk.1
    exact absurd h3 hk.2.2.2.2
   rcases hk with hk|hk
   ·exact .inl hk
   exact .inr ⟨hk.1,hk.2.1,hk.2.2.1,hk.2.2.2.1⟩
theorem Fq {aC s u p:Bytes} {a:oL} (h:ri aC s u p=some a) (hu:∃ x,u=df 5 x) (hp:∃ x,p=df 5 x) (hs:s=[]->u=[]∧p=[]):AOk aC a:=by
 unfold ri at h
 cases hc:Kx false s with
 |none =>
  rw[hc]at h
  exact Li h hu hp (fun e=>⟨(hs e).1,(hs e).2,rfl⟩)
 |some v =>
  obtain⟨n,q⟩:=v
  rw[hc]at h
  dsimp only at h
  split at h
  ·cases h
  next hn=>exact Li h hu hp (fun e=>absurd e hn)
theorem El {aC s:Bytes} {a:oL} (h:jk aC s=some a):AOk aC a:=by
 unfold jk at h
 cases ha:xl s with
 |none =>
  rw[ha]at h
  exact Fq h ⟨[],rfl⟩ ⟨[],rfl⟩ (fun _=>⟨rfl,rfl⟩)
 |some v =>
  obtain⟨who,rest⟩:=v
  rw[ha]at h
  dsimp only at h
  split at h
  ·cases h
  next hr=>exact Fq h ⟨_,rfl⟩ ⟨_,rfl⟩ (fun e=>absurd e hr)

theorem qG (s t:Bytes):((bs s).toList==(bs t).toList)=decide (s=t):=by rw[au,au,mn]
theorem fq (s:Bytes) (w:World):Calls prog 96 #[.string (bs s)] w fun e w'=>e=.returned (.bool (ep s))∧w'=w:=by
 have e1:=qG s [102,116,112]
 have e2:=qG s [102,105,108,101]
 have e3:=qG s [104,116,116,112]
 have e4:=qG s [104,116,116,112,115]
 have e5:=qG s [119,115]
 have e6:=qG s [119,115,115]
 have hR:ep s=(decide (s=[102,116,112])||decide (s=[102,105,108,101])||decide (s=[104,116,116,112])||decide (s=[104,116,116,112,115])||decide (s=[119,115])||decide (s=[119,115,115])):=by
  unfold ep
  rw[mn,mn,mn,mn,mn,mn]
 rw[hR]
 generalize decide (s=[102,116,112])=b1 at e1 ⊢
 generalize decide (s=[102,105,108,101])=b2 at e2 ⊢
 generalize decide (s=[104,116,116,112])=b3 at e3 ⊢
 generalize decide (s=[104,116,116,112,115])=b4 at e4 ⊢
 generalize decide (s=[119,115])=b5 at e5 ⊢
 generalize decide (s=[119,115,115])=b6 at e6 ⊢
 clear hR
 generalize bs s=S at *
 rw[au]at e1 e2 e3 e4 e5 e6
 cases b1
 ·cases b2
  ·cases b3
   ·cases b4
    ·cases b5
     ·cases b6 <;>
      ·go_enter func96,ntmps96
       go_wp2_with fail
       go_ret
       exact⟨rfl,rfl⟩
     go_enter func96,ntmps96
     go_wp2_with fail
     go_ret
     exact⟨rfl,rfl⟩
    go_enter func96,ntmps96
    go_wp2_with fail
    go_ret
    exact⟨rfl,rfl⟩
   go_enter func96,ntmps96
   go_wp2_with fail
   go_ret
   exact⟨rfl,rfl⟩
  go_enter func96,ntmps96
  go_wp2_with fail
  go_ret
  exact⟨rfl,rfl⟩
 go_enter func96,ntmps96
 go_wp2_with fail
 go_ret
 exact⟨rfl,rfl⟩
theorem H9 (s:Bytes) (w:World):Calls prog 191 #[.string (bs s)] w fun e w'=>e=.returned (.tuple #[.int .i64 ((Dh s).getD 0),.bool (Dh s).isSome])∧w'=w:=by
 have e1:=qG s [102,116,112]
 have e3:=qG s [104,116,116,112]
 have e4:=qG s [104,116,116,112,115]
 have e5:=qG s [119,115]
 have e6:=qG s [119,115,115]
 unfold Dh
 by_cases b1:s=[102,116,112]
 ·rw[decide_eq_true b1]at e1
  rw[if_pos b1]
  clear b1
  generalize bs s=S at *
  rw[au]at e1 e3 e4 e5 e6
  go_enter func191,ntmps191
  go_wp2_with fail
  go_ret2
  exact⟨rfl,rfl⟩
 rw[decide_eq_false b1]at e1
 rw[if_neg b1]
 clear b1
 by_cases b3:s=[104,116,116,112]
 ·rw[decide_eq_true b3]at e3
  rw[if_pos (.inl b3)]
  clear b3
  generalize bs s=S at *
  rw[au]at e1 e3 e4 e5 e6
  go_enter func191,ntmps191
  go_wp2_with fail
  go_ret2
  exact⟨rfl,rfl⟩
 rw[decide_eq_false b3]at e3
 by_cases b5:s=[119,115]
 ·rw[decide_eq_true b5]at e5
  rw[if_pos (.inr b5)]
  clear b5 b3
  generalize bs s=S at *
  rw[au]at e1 e3 e4 e5 e6
  go_enter func191,ntmps191
  go_wp2_with fail
  go_ret2
  exact⟨rfl,rfl⟩
 rw[decide_eq_false b5]at e5
 rw[if_neg (fun h=>h.elim b3 b5)]
 clear b3 b5
 by_cases b4:s=[104,116,116,112,115]
 ·rw[decide_eq_true b4]at e4
  rw[if_pos (.inl b4)]
  clear b4
  generalize bs s=S at *
  rw[au]at e1 e3 e4 e5 e6
  go_enter func191,ntmps191
  go_wp2_with fail
  go_ret2
  exact⟨rfl,rfl⟩
 rw[decide_eq_false b4]at e4
 by_cases b6:s=[119,115,115]
 ·rw[decide_eq_true b6]at e6
  rw[if_pos (.inr b6)]
  clear b4 b6
  generalize bs s=S at *
  rw[au]at e1 e3 e4 e5 e6
  go_enter func191,ntmps191
  go_wp2_with fail
  go_ret2
  exact⟨rfl,rfl⟩
 rw[decide_eq_false b6]at e6
 rw[if_neg (fun h=>h.elim b4 b6)]
 clear b4 b6
 generalize bs s=S at *
 rw[au]at e1 e3 e4 e5 e6
 go_enter func191,ntmps191
 go_wp2_with fail
 go_ret2
 exact⟨rfl,rfl⟩
theorem Rh (n:Int) {l:Bytes} {k:Nat} (h:k<l.length):jN n (l.drop k)=if eF (b2 l[k]) 10<0 then none else jN (if(9223372036854775807-eF (b2 l[k]) 10)/10<n then 9223372036854775807 else n*10+eF (b2 l[k]) 10) (l.drop (k+1)):=by
 rw[ay h];rfl
theorem ED (c:Int):-1<=eF c 10∧eF c 10<10:=by
 unfold eF
 simp only
 split <;>(try split) <;>(try split) <;>(try split) <;>omega
theorem jd (l:Bytes) (w:World) (hl:l.length<=1024000000) :
  Calls prog 111 #[.string (bs l)] w fun e w'=>e=.returned (.tuple #[.int .i64 ((cR l).getD 0),.bool (cR l).isSome])∧w'=w:=by
 obtain⟨R,hR⟩:=ap (jN 0 l)
 unfold cR
 rw[<-hR]
 have HR:=h_ hR;clear hR
 obtain⟨s,hs⟩:=ap (bs l)
 have hsz:s.size=l.length:=by rw[hs,aB]
 have hby:∀ k (hk:k<s.size) (hk2:k<l.length),((s[k]'hk).toNat:Int)=b2 l[k]:=fun k hk hk2=>bV hs hk hk2
 have hemp:(s.toList=[]) ↔ l=[]:=by rw[hs,au]
 rw[<-hs]
 clear hs
 obtain⟨N,hN⟩:=ap (s.size)
 have jF:s.size=N:=hN.symm
 have pg:N<=1024000000:=by omega
 have fF:=h_ hby;clear hby
 have e7:=h_ hsz;clear hsz hl hN
 by_cases hnil:l=[]
 ·rw[if_pos hnil]
  have he:=hemp.mpr hnil
  have he1:s.toList.isEmpty=true:=by simpa using he
  clear hemp
  go_enter func111,ntmps111
  go_wp2_with fail
  go_ret2
  exact⟨rfl,rfl⟩
 rw[if_neg hnil]
 have he:¬ s.toList=[]:=fun h=>hnil (hemp.mp h)
 have he1:s.toList.isEmpty=false:=by simpa using he
 clear hemp
 have TK:=h_ hnil;clear hnil
 go_enter func111,ntmps111
 go_wp2_with fail
 go_loopw [4,11] (fun nv iv wr=>∃ (k:Nat) (n:Int),k<=N∧iv=.int .i64 k∧nv=.int .i64 n∧Hid (jN n (l.drop k)=R)∧0<=n∧n<=9223372036854775807∧w=wr) (fun _ i _=>N-(intOf i).toNat)
 case atStart=>exact⟨0,0,by omega,by simp,by simp,HR.out.symm,by omega,by omega,rfl⟩
 case round =>
  obtain⟨k,n,hk,rfl,rfl,hd,hn0,hn1,rfl⟩:=hrel
  by_cases hlt:k<N
  ·have lV:k<s.size:=by omega
   have hkl:k<l.length:=by have:=e7.out;omega
   have hx:=fF.out k lV hkl
   have hst:=Rh n hkl
   rw[hd.out]at hst
   have hr:=iD l[k]
   have hda:=fun W=>cY (b2 l[k]) 10 W hr (by omega)
   have hlo:=ED (b2 l[k])
   obtain⟨D,hD⟩:=ap (eF (b2 l[k]) 10)
   rw[<-hD]at hst hda hlo
   clear hD
   generalize b2 l[k]=X at hx hr hda
   have r8:=h_ hda;clear hda hd
   by_cases hD0:D<0
   ·rw[if_pos hD0]at hst
    have HST:=h_ hst;clear hst
    go_wp2_with (first|(go_at_call 62;refine(r8.out _).mono ?_;rintro e w2 ⟨rfl,rfl⟩)|fail)
    go_ret2
    exact⟨by rw[HST.out];rfl,rfl⟩
   rw[if_neg hD0]at hst
   have hw1:IntKind.i64.wrap (9223372036854775807-D)=9223372036854775807-D:=IntWalk.i64_in _ (by omega)
   obtain⟨M,hM⟩:=ap (9223372036854775807-D)
   rw[<-hM]at hw1 hst
   have hM0:0<=M:=by omega
   have hdv:Int.tdiv M 10=M/10:=WV hM0
   have hq1:0<=M/10∧M/10<=922337203685477580:=by omega
   have hw2:IntKind.i64.wrap (M/10)=M/10:=IntWalk.i64_in _ (by omega)
   by_cases hmn:M/10<n
   ·rw[if_pos hmn]at hst
    have HST:=h_ hst;clear hst
    go_wp2_with (first|(go_at_call 62;refine(r8.out _).mono ?_;rintro e w2 ⟨rfl,rfl⟩)|fail)
    go_roundw
    case rel=>exact⟨k+1,9223372036854775807,by omega,by simp,by simp,HST.out.symm,by omega,by omega,by trivial⟩
    case measure=>simp[intOf];omega
   rw[if_neg hmn]at hst
   have HST:=h_ hst;clear hst
   obtain⟨Z,hZ⟩:=ap (n*10)
   have hw3:IntKind.i64.wrap (n*10)=n*10:=IntWalk.i64_in _ (by omega)
   have hw4:IntKind.i64.wrap (n*10+D)=n*10+D:=IntWalk.i64_in _ (by omega)
   clear hZ
   go_wp2_with (first|(go_at_call 62;refine(r8.out _).mono ?_;rintro e w2 ⟨rfl,rfl⟩)|fail)
   go_roundw
   case rel=>exact⟨k+1,n*10+D,by omega,by simp,by simp,HST.out.symm,by omega,by omega,by trivial⟩
   case measure=>simp[intOf];omega
  obtain rfl:k=N:=by omega
  have hdr:l.drop k=[]:=bf (by have:=e7.out;omega)
  have hd1:=hd.out
  rw[hdr]at hd1
  have HST:=h_ (show some n=R from hd1);clear hd1 hd
  go_wp2_with fail
  go_ret2
  exact⟨by rw[<-HST.out];rfl,rfl⟩

theorem DN {xs ys:List Bytes} {k:Nat} (h1:k<xs.length) (h2:k<ys.length) (ht:xs.take k=ys.take k) (he:xs[k]=ys[k]):xs.take (k+1)=ys.take (k+1):=by
 rw[aH h1,aH h2,ht,he]
theorem An (xs ys:List Bytes) (c1 c2:Nat) (w:World) (hl:xs.length=ys.length) (hm:xs.length<=maxLen) (b1 o1 b2 o2:Nat)
  (h1:At w b1 o1 (xs.map S)) (h2:At w b2 o2 (ys.map S)) :
  Calls prog 15 #[.slice (some ⟨b1,o1,none⟩) xs.length c1,.slice (some ⟨b2,o2,none⟩) ys.length c2] w fun e w'=>e=.returned (.bool (decide (xs=ys)))∧Below w.heap.size w w':=by
 unfold maxLen at hm
 have HL:=h_ hl
 obtain⟨n,hn⟩:=ap (xs.length)
 have hn2:n=ys.length:=by omega
 rw[<-hn,<-hn2]
 rw[<-hn]at hm
 have HN:=h_ hn;clear hn
 have lX:=h_ hn2;clear hn2 hl
 have hne:((n:Int) != n)=false:=by simp
 go_enter func15,ntmps15
 go_wp2
 go_loopw [5] (fun i wr=>∃ k d:Nat,k<=n∧i=.int .i64 k∧xs.take k=ys.take k∧wr=w.drewN d) (fun i _=>n-(intOf i).toNat)
 case atStart=>exact⟨0,0,aO _,rfl,by simp,rfl⟩
 case round =>
  obtain⟨k,d,hk,rfl,ht,rfl⟩:=hrel
  have HT:=h_ ht;clear ht
  by_cases hlt:k<n
  ·have hx:k<xs.length:=by have:=HN.out;omega
   have hy:k<ys.length:=by have:=lX.out;omega
   have hc1:w.cell? ⟨b1,o1+k,none⟩=some (.string (bs xs[k])):=by rw[h1 k (by simpa using hx),bQ]
   have hc2:w.cell? ⟨b2,o2+k,none⟩=some (.string (bs ys[k])):=by rw[h2 k (by simpa using hy),bQ]
   have heq:=qG xs[k] ys[k]
   have HE0:=h_ (show ∀_:xs[k]=ys[k],xs.take (k+1)=ys.take (k+1)from fun he=>DN hx hy HT.out he)
   have HF0:=h_ (show ∀_:¬ xs[k]=ys[k],decide (xs=ys)=false from fun he=>decide_eq_false fun h=>he (by subst h;rfl))
   obtain⟨x,kL⟩:=ap (bs xs[k])
   obtain⟨y,hyy⟩:=ap (bs ys[k])
   rw[<-kL]at hc1 heq
   rw[<-hyy]at hc2 heq
   clear kL hyy
   by_cases he:xs[k]=ys[k]
   ·rw[decide_eq_true he]at heq
    have he':(x.toList != y.toList)=false:=by unfold bne;rw[heq];rfl
    have HE:=h_ (HE0.out he);clear he HE0 HF0
    go_wp2
    go_quiet (fail)
    go_wp2
    go_roundw
    case rel=>exact⟨k+1,_,by omega,by go_num,HE.out,rfl⟩
    case measure=>simp[intOf];omega
   rw[decide_eq_false he]at heq
   have he':(x.toList != y.toList)=true:=by unfold bne;rw[heq];rfl
   have HF:=h_ (HF0.out he)
   clear he HE0 HF0
   go_wp2
   go_quiet (fail)
   go_wp2
   go_ret
   exact⟨dK HF.out.symm,dF (dF (Below.refl _ _) _) _⟩
  go_wp2
  go_ret
  refine⟨dK ?_,dF (Below.refl _ _) _⟩
  have e1:=HN.out
  have e2:=lX.out
  have h:=HT.out
  rw[aI (by omega),aI (by omega)]at h
  simp[h]
theorem ke (xs ys:List Bytes) (A1 A2:Option Addr) (c1 c2:Nat) (w:World) (hl:xs.length≠ys.length) :
  Calls prog 15 #[.slice A1 xs.length c1,.slice A2 ys.length c2] w fun e w'=>e=.returned (.bool (decide (xs=ys)))∧Below w.heap.size w w':=by
 have hfin:decide (xs=ys)=false:=by
  rw[decide_eq_false_iff_not]
  intro h
  exact hl (by rw[h])
 have HF:=h_ hfin;clear hfin
 obtain⟨n,hn⟩:=ap (xs.length)
 obtain⟨m,hm⟩:=ap (ys.length)
 rw[<-hn,<-hm]at hl
 rw[<-hn,<-hm]
 clear hn hm
 have hne:((n:Int) != m)=true:=by simp;omega
 clear hl
 go_enter func15,ntmps15
 go_wp2
 go_ret
 exact⟨dK HF.out.symm,Below.refl _ _⟩
theorem Ao (A1 A2:Option Addr) (c1 c2:Nat) (w:World) :
  Calls prog 15 #[.slice A1 0 c1,.slice A2 0 c2] w fun e w'=>e=.returned (.bool true)∧Below w.heap.size w w':=by
 go_enter func15,ntmps15
 go_wp2
 refine wp_loop_rounds 1 ?_
 rw[rounds_succ]
 go_wp2
 go_ret
 exact⟨rfl,Below.refl _ _⟩
theorem ln (xs ys:List Bytes) (v1 v2:Value) (w:World) (B1 B2:Nat) (h1:Sl B1 w v1 (xs.map S)) (h2:Sl B2 w v2 (ys.map S)) :
  Calls prog 15 #[v1,v2] w fun e w'=>e=.returned (.bool (decide (xs=ys)))∧Below w.heap.size w w':=by
 obtain⟨c1,hc1,hm1,h1⟩:=h1
 obtain⟨c2,hc2,hm2,h2⟩:=h2
 have e1:(xs.map S).length=xs.length:=by simp
 have e2:(ys.map S).length=ys.length:=by simp
 rw[e1]at hc1 h1
 rw[e2]at hc2 h2
 have none_:∀ a1 a2 d1 d2,Calls prog 15 #[.slice a1 0 d1,.slice a2 0 d2] w fun e w'=>e=.returned (.bool (decide (([]:List Bytes)=[])))∧Below w.heap.size w w' :=
  fun a1 a2 d1 d2=>(Ao a1 a2 d1 d2 w).mono fun e w' h=>⟨by rw[h.1];simp,h.2⟩
 by_cases hl:xs.length=ys.length
 ·rcases h1 with⟨hn,a1,rfl⟩|⟨b1,o1,_,rfl,ha1⟩
  ·obtain rfl:xs=[]:=by simpa using hn
   obtain rfl:ys=[]:=am (by simpa using hl.symm)
   rcases h2 with⟨_,a2,rfl⟩|⟨b2,o2,_,rfl,ha2⟩
   ·exact none_ _ _ _ _
   exact none_ _ _ _ _
  rcases h2 with⟨hn,a2,rfl⟩|⟨b2,o2,_,rfl,ha2⟩
  ·obtain rfl:ys=[]:=by simpa using hn
   obtain rfl:xs=[]:=am (by simpa using hl)
   exact none_ _ _ _ _
  exact An xs ys c1 c2 w hl (by omega) b1 o1 b2 o2 ha1 ha2
 rcases h1 with⟨hn,a1,rfl⟩|⟨b1,o1,_,rfl,ha1⟩
 ·obtain rfl:xs=[]:=by simpa using hn
  rcases h2 with⟨hn,a2,rfl⟩|⟨b2,o2,_,rfl,ha2⟩
  ·obtain rfl:ys=[]:=by simpa using hn
   exact absurd rfl hl
  simp only[aQ]at *
  exact ke [] ys _ _ _ _ w hl
 rcases h2 with⟨hn,a2,rfl⟩|⟨b2,o2,_,rfl,ha2⟩
 ·obtain rfl:ys=[]:=by simpa using hn
  exact ke xs [] _ _ _ _ w hl
 exact ke xs ys _ _ _ _ w hl
end Go.Proofs.YtmndlfglgcioeaaGreatDoor
