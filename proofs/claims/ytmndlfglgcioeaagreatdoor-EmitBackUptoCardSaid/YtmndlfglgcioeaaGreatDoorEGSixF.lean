/- Joined texts. -/
import Derived.Recover
import Derived.Laws.CopyOwn
import Derived.Laws.Pointers
import Derived.Test.YtmndlfglgcioeaaGreatDoorEGSixA
set_option maxHeartbeats 40000000
namespace Go.Proofs.YtmndlfglgcioeaaGreatDoor
open Tryz
open Go.RowKit
set_option maxRecDepth 10000
structure Two (w:World) (b:Nat) (cs:List Int) (q:Bool) (wr:World):Prop where
 a:wr.heap[b]? = some (.cells (dI cs).toArray 25 (0,0))
 ok:wr.heap[b+1]? = some (.cells #[.bool q] 4 (0,0))
 len:cs.length=8
 bL:Below w.heap.size w wr
theorem Two.lt{w:World}{b:Nat}{cs:List Int}{q:Bool}{wr:World}(h:Two w b cs q wr):b+1<wr.heap.size:=(bQ.1 h.ok).1
theorem Two.below{w:World}{b:Nat}{cs:List Int}{q:Bool}{wr w2:World}(h:Two w b cs q wr)(hb:w.heap.size<=b)(h2:Below wr.heap.size wr w2):Two w b cs q w2:=by
 have:=h.lt;exact⟨(h2.block b (by omega)).trans h.a,(h2.block (b+1) (by omega)).trans h.ok,h.len,h.bL.trans (h2.mono (by omega))⟩
theorem Two.row{w:World}{b:Nat}{cs ds:List Int}{q:Bool}{wr:World}(h:Two w b cs q wr)(hb:w.heap.size<=b)(hd:ds.length=8):Two w b ds q (wr.setRow b (dI ds).toArray) :=
 ⟨setRow_heap wr b _ _ _ _ h.a,(setRow_other wr b (b+1) _ (by omega)).trans h.ok,hd,below_setRow h.bL hb _⟩
theorem Two.set{w:World}{b:Nat}{cs:List Int}{q:Bool}{wr:World}(h:Two w b cs q wr)(hb:w.heap.size<=b)(p:Bool):Two w b cs p (wr.setCell ⟨b+1,0,none⟩ (.bool p)):=by
 have e:=setCell_eq_setRow wr (b+1) 0 _ _ _ (.bool p) h.ok;rw[e];exact⟨(setRow_other wr (b+1) b _ (by omega)).trans h.a,setRow_heap wr (b+1) _ _ _ _ h.ok,h.len,below_setRow h.bL (by omega) _⟩
theorem Two.cell{w:World}{b:Nat}{cs:List Int}{q:Bool}{wr:World}(h:Two w b cs q wr):wr.cell? ⟨b+1,0,none⟩=some (.bool q)∧wr.frozen? ⟨b+1,0,none⟩=false:=by
 constructor
 ·simp[World.cell?,h.ok]
 simp[World.frozen?,h.ok]
def Z8:List Int:=[0,0,0,0,0,0,0,0]
theorem rm(w:World):(Instr.alloc 25 true (Value.tuple #[])).run prog w=.ok (.pointer (some ⟨w.heap.size,0,none⟩)) (w.alloc (.cells (dI Z8).toArray 25)):=by kernel_rfl
theorem pj:(prog.info? 25).map (·.size)=some 8:=by kernel_rfl
theorem Hp(cs:List Int):(dI cs).toArray.all (·.oneCell')=true:=by
 rw[Array.all_eq_true];intro i hi;simp[Value.oneCell']
theorem NU(w:World):Two w w.heap.size Z8 false ((w.alloc (.cells (dI Z8).toArray 25)).alloc (.cells #[.bool false] 4)):=by
 refine⟨?_,?_,rfl,((Below.refl _ w).alloc (af _) _).alloc (by simp) _⟩
 ·rw[Below.heap_alloc _ _ _ (by simp),heap_alloc_new]
 have:=heap_alloc_new (w.alloc (.cells (dI Z8).toArray 25)) (.cells #[.bool false] 4)
 simpa using this
theorem F9(w0:World)(b:Nat)(cs:List Int)(q:Bool)(u:TypeId)(pv:Value)(older:List PanicEntry)(w:World)(h:Two w0 b cs q w)(hb:w0.heap.size<=b) :
  CallsD prog 206 #[.pointer (some ⟨b,0,none⟩),.pointer (some ⟨b+1,0,none⟩)] (.panicking ({v:=.iface u pv,recovered:=false}::older)) w fun e u' w' =>
   e=.returned (.tuple #[])∧u'=.panicking ({v:=.iface u pv,recovered:=true}::older)∧Two w0 b Z8 false w':=by
 refine callsD_of_wpS func206 rfl fun c₀ cs hu=>?_
 apply wpS_seq
 apply wpS_region
 simp[wpOpsS,go_sem,recoverD,hu,ntmps206,Exit.thenS];refine wpS_cond (t:=true) (by simp[Act.eval,Array.replicate]) ?_;simp only[if_true];refine wpS_of_wp ?_;have HT:=h_ h;clear h
 go_wp2_with (first
  | (refine wpList_store_row rfl 25 (.tmp 0) (.tmp 4) rfl b (dI Z8).toArray rfl rfl _ _ HT.out.a (by rw[pj];rfl) (by simp[HT.out.len,Z8]) (Hp _) ?_
     have ht2:=HT.out.row (ds:=Z8) hb rfl;revert ht2;generalize w.setRow b (dI Z8).toArray=w2;intro ht2;obtain⟨hc2,hz2⟩:=ht2.cell;have HT2:=h_ ht2;clear ht2)
  |fail)
 simp only[bodyPostS];exact⟨trivial,_,rfl,.tuple #[],by simp[results,results206],rfl,rfl,HT2.out.set hb false⟩
theorem F8(p r:Addr)(w:World) :
  CallsD prog 206 #[.pointer (some p),.pointer (some r)] .returning w fun e u' w'=>e=.returned (.tuple #[])∧u'=.returning∧w'=w:=by
 refine callsD_of_wpS func206 rfl fun c₀ cs hu=>?_
 apply wpS_seq
 apply wpS_region
 simp[wpOpsS,go_sem,recoverD,hu,ntmps206,Exit.thenS];refine wpS_cond (t:=false) (by simp[Act.eval,Array.replicate]) ?_;simp only[fd,if_false];refine wpS_of_wp (wp_skip ?_);cases c₀;simp_all[bodyPostS,results,results206]

abbrev a1B(o:Option (List Int)):Ending:=.returned (.tuple #[.agg (dI (o.getD Z8)).toArray,.bool o.isSome])
theorem AB{ops:Array Oper}{rest:List Oper}{o:Oper}{a:Act}{w:World}{Q:Exit->Act->World->Prop}(hgd:o.guard=none)(d s:Operand)(dT sT:TypeId)
  (ho:o.op=.call {callee:=.builtin .copy,args:=#[d,s],argTypes:=#[dT,sT]}) (elem:TypeId) (hu:prog.underlying dT=some (.slice elem)) (hsz:(prog.info? elem).map (·.size)=some 1)
  (w0:World) (g:Nat) (cs:List Int) (q:Bool) (hT:Two w0 g cs q w) (hg:w0.heap.size<=g) (off dLen dCap:Nat) (hd:a.eval d=.slice (some ⟨g,off,none⟩) dLen dCap)
  (sp:Option Addr) (sLen sCap:Nat) (hs:a.eval s=.slice sp sLen sCap) (l:List Int) (hl:l.length=sLen) (B:Nat) (hsrc:Sl B w (.slice sp sLen sCap) (dI l)) (hfit:off+sLen<=8) (hdl:sLen<=dLen)
  (h:∀ w',Two w0 g (splice cs off l) q w'->w.grownBy w' (some g)->wpList prog ops Q rest (a.put o.dst (goInt sLen)) w'):wpList prog ops Q (o::rest) a w:=by
 by_cases h0:l=[]
 ·subst h0
  obtain rfl:sLen=0:=hl.symm;refine wpList_copy_nothing hgd d s dT sT ho elem hu hsz _ _ _ _ _ _ hd hs (Nat.zero_min _) ?_;have e:splice cs off []=cs:=by simp[splice]
  exact h w (by rw[e];exact hT) ⟨rfl,rfl,rfl,af _,fun _ _ _=>rfl⟩
 have hn0:sLen≠0:=fun e=>h0 (ak (by omega));obtain⟨c',_,_,hx⟩:=hsrc;rcases hx with⟨hx,_⟩|⟨b',o',_,hv,hat⟩
 ·exact absurd (by simpa using hx) h0
 injection hv with e1 e2 e3
 subst e1;have hcl:(dI cs).toArray.size=8:=by simp[hT.len]
 have hfin:=fun h':_=>h (w.setRow g (dI (splice cs off l)).toArray) (hT.row hg (by rw[length_splice _ _ _ (by rw[hT.len];omega)];exact hT.len)) h';refine wpList_copy_own hgd d s dT sT ho elem hu hsz g off dLen dCap ⟨b',o',none⟩ sLen sCap hd hs (dI cs).toArray _ hT.a (dI l) (by rw[am,hl];exact(yv hdl).symm) ?_ (by rw[am,hcl];omega) ?_ ?_
 ·intro j v hj
  have hjl:j<(dI l).length:=(bf.mp hj).1;rw[addr_add,hat j hjl,<-List.getElem?_eq_getElem hjl,hj]
 ·intro v hv
  obtain⟨n,_,rfl⟩:=cm.mp hv;rfl
 have e:((dI cs).toArray.toList.take off++(dI l++(dI cs).toArray.toList.drop (off+(dI l).length))).toArray=(dI (splice cs off l)).toArray:=by
  simp[splice,List.map_take,List.map_drop]
 rw[e,show(dI l).length=sLen by rw[am,hl]];exact hfin ⟨rfl,rfl,rfl,by simp[World.setRow],fun k hk hne=>setRow_other w g k _ (fun e=>hne (by rw[e]))⟩
theorem KH{tmps:Array Value}{w w2:World}{g:Nat}{cs:List Int}{q:Bool}(h2:tmps.getD 2 undef=.pointer (some ⟨g,0,none⟩))(h3:tmps.getD 3 undef=.pointer (some ⟨g+1,0,none⟩))(h:Two w g cs q w2) :
  (results f199 tmps).run prog w2=.ok (.tuple #[.agg (dI cs).toArray,.bool q]) w2:=by
 have h2':tmps[2]?.getD undef=.pointer (some ⟨g,0,none⟩):=by simpa using h2
 have h3':tmps[3]?.getD undef=.pointer (some ⟨g+1,0,none⟩):=by simpa using h3
 have hl:=run_loadVar_row (P:=prog) w2 g 25 25 (dI cs).toArray (0,0) _ h.a underlying25 rfl (by rw[pj];simp[h.len]);obtain⟨hc,hz⟩:=h.cell;have hlb:(loadVar 4 ⟨g+1,0,none⟩).run prog w2=.ok (.bool q) w2:=by simp[go_sem,hc]
 simp[results,results199,asAddr,h2',h3',hl,hlb]
theorem xW:(prog.info? 24).map (·.size)=some 1:=by kernel_rfl
theorem qT{tmps:Array Value}{w w3:World}{g:Nat}{cs:List Int}{q:Bool}(h2:tmps.getD 2 undef=.pointer (some ⟨g,0,none⟩))(h3:tmps.getD 3 undef=.pointer (some ⟨g+1,0,none⟩))(h:Two w g cs q w3)(hg:w.heap.size<=g){R:Option (List Int)}(hR:R=none) :
  bodyPostD prog f199 (fun e w'=>e=a1B R∧Below w.heap.size w w') (Exit.panic [{v:=.iface 211 (.agg #[]),recovered:=false}])
   {tmps:=tmps,defers:=[{target:=.fn (.func 206) #[.pointer (some ⟨g,0,none⟩),.pointer (some ⟨g+1,0,none⟩)],args:=#[]}]} w3:=by
 subst hR;refine leaves_cons (f:=206) (args:=#[.pointer (some ⟨g,0,none⟩),.pointer (some ⟨g+1,0,none⟩)]) (by simp) (by simp[go_sem]) ?_;refine(F9 w g cs q _ _ [] w3 h hg).mono ?_;rintro e u' w4 ⟨rfl,rfl,h4⟩;exact⟨_,KH h2 h3 h4,rfl,h4.bL⟩
theorem pJ{tmps:Array Value}{w w3:World}{g:Nat}{cs:List Int}{q:Bool}(h2:tmps.getD 2 undef=.pointer (some ⟨g,0,none⟩))(h3:tmps.getD 3 undef=.pointer (some ⟨g+1,0,none⟩))(h:Two w g cs q w3){R:Option (List Int)}(hR:cs=R.getD Z8)(hq:q=R.isSome) :
  bodyPostD prog f199 (fun e w'=>e=a1B R∧Below w.heap.size w w') Exit.ret
   {tmps:=tmps,defers:=[{target:=.fn (.func 206) #[.pointer (some ⟨g,0,none⟩),.pointer (some ⟨g+1,0,none⟩)],args:=#[]}]} w3:=by
 refine leaves_cons (f:=206) (args:=#[.pointer (some ⟨g,0,none⟩),.pointer (some ⟨g+1,0,none⟩)]) (by simp) (by simp[go_sem]) ?_;refine(F8 _ _ w3).mono ?_;rintro e u' w4 ⟨rfl,rfl,rfl⟩;exact⟨_,KH h2 h3 h,by rw[hR,hq],h.bL⟩
theorem a1E(b K N:Nat)(h:K+N=8):∃ o',o'+N<=8∧(N≠0->o'=K)∧∀ W,(Instr.sliceAt 25 (.pointer (some ⟨b,0,none⟩)) (some (.int .i64 (K:Int))) none none).run prog W=.ok (.slice (some ⟨b,o',none⟩) N N) W:=by
 have hk:((K:Int)).toNat=K:=rfl;have hrun:=fun W=>run_sliceAt_array_l (P:=prog) W 25 ⟨b,0,none⟩ underlying25 .i64 (K:Int) (by omega) (by show(K:Int)<=8;omega)
 have hsz:∀ W,(sizeOf (prog.elem 25)).run prog W=.ok 1 W:=fun W=>by
  obtain⟨i,hi,_,hs,_⟩:=info_parts E7;exact Td hi hs W
 by_cases hN:N=0
 ·subst hN
  refine⟨0,by omega,fun h=>absurd rfl h,fun W=>?_⟩;rw[hrun,hsz];have hK:K=8:=by omega
  subst hK;rfl
 refine⟨K,by omega,fun _=>rfl,fun W=>?_⟩;rw[hrun,hsz];show Result.ok (slicedAt ⟨b,0,none⟩ K 8 8 1) W=_;unfold slicedAt;rw[if_neg (by omega),show(⟨b,0,none⟩:Addr).add (K*1)=⟨b,K,none⟩ by rw[addr_add];simp,show 8-K=N by omega]
theorem Im{u v:List Int}{o' K:Nat}(hK:K+v.length=8)(hL:u.length+v.length<8)(ho:v.length≠0->o'=K)(ho2:o'+v.length<=8) :
  splice (splice Z8 0 u) o' v=u++List.replicate (8-u.length-v.length) 0++v:=by
 have e1:splice Z8 0 u=u++List.replicate (8-u.length) 0:=by
  unfold splice;have:Z8=List.replicate 8 0:=rfl;rw[this,fZ,bJ,List.drop_replicate,bC]
 rw[e1];unfold splice;by_cases hv:v=[]
 ·subst hv
  simp only[aN,dU,bJ,cX,qj,aG]
 have hvl:v.length≠0:=fun e=>hv (ak e);rw[ho hvl,List.take_append,aP (by omega),List.take_replicate,dK (by simp;omega),aG]
 congr 2
 congr 1
 omega
theorem WO{w:World}{base e n:Nat}{v:Value}{xs:List Value}(h:w.ownsRow base e 1 v n xs){g:Nat}(hg:g<base):v.ownBlock=none∨v.ownBlock≠some g:=by
 rcases h.2 with⟨rfl,_⟩|⟨k,cap,cur,rfl,hk,_⟩
 ·exact .inl rfl
 right
 intro e;simp only[Value.ownBlock,dA]at e;omega
theorem BF(l:Bytes)(w:World)(hl:l.length<=1024000000)(hE:Env w):Calls prog 199 #[.string (bs l)] w fun e w'=>e=a1B (mS l)∧Below w.heap.size w w':=by
 have hmf:∀ (fn:Fn) (first cap:Array Value) (w:World),(Instr.makeFunc fn first cap).run prog w=.ok (.func fn first cap) w:=fun _ _ _ _=>rfl;have mY:=fun W (h:Below w.heap.size w W)=>jE l [58,58] W hl (hE.below h);rw[show bs [58,58]=⟨#[58,58]⟩from rfl,wX]at mY;have hr1:=fun W (h:Below w.heap.size w W)=>BD l true W hl (hE.below h);obtain⟨R,hR⟩:=az (mS l);rw[<-hR];unfold mS at hR
 have hlen:∀ a b,jK l=some (a,b)->a.length<=1024000000∧b.length<=1024000000:=by
  intro a b h;have h1:=Df l [58,58];rw[wX,h]at h1;dsimp only at h1;omega
 have hra:=fun a b (h:jK l=some (a,b)) W (hw:Below w.heap.size w W)=>BD a false W (hlen a b h).1 (hE.below hw);have hrb:=fun a b (h:jK l=some (a,b)) W (hw:Below w.heap.size w W)=>BD b true W (hlen a b h).2 (hE.below hw);clear hlen hE hl;have tw:=NU w;obtain⟨s,hs⟩:=az (bs l);rw[<-hs]at mY hr1 ⊢;have HS:=h_ hs;clear hs;have HR:=h_ hR;clear hR;have IW:=h_ tw;clear tw;cases hc:jK l with
 |none =>
  rw[hc]at mY HR;have mt:=h_ mY;clear mY;clear hra hrb hc;cases hrr:qa true l with
  |none =>
   rw[hrr]at hr1 HR
   change ∀W,Below w.heap.size w W->Calls _ _ _ W fun e w'=>e=Jc∧Below W.heap.size W w' at hr1
   have HR1:=h_ hr1;clear hr1 hrr
   go_enter_defers func199,ntmps199
   go_wp2_with (first
    |(refine aS rfl 25 rfl _ _ (rm _) ?_)
    |(go_at_call 68;refine(mt.out _ IW.out.bL).mono ?_;rintro e w2 ⟨rfl,hb2⟩;have HT2:=h_ (IW.out.below (af _) hb2);clear hb2)
    |(go_at_call 207;refine(HR1.out _ HT2.out.bL).mono ?_;rintro e w3 ⟨rfl,hb3⟩;have HT3:=h_ (HT2.out.below (af _) hb3);clear hb3)
    |fail)
   exact qT rfl rfl HT3.out (af _) HR.out
  |some v =>
   rw[hrr]at hr1 HR
   change ∀W,Below w.heap.size w W->Calls _ _ _ W fun e w'=>(∃x,e=.returned x∧w'.ownsRow W.heap.size 24 1 x v.length (dI v))∧Below W.heap.size W w' at hr1
   have HR1:=h_ hr1;clear hr1;have Oe:=h_ (jU hrr);clear hrr;obtain⟨N,hN⟩:=az (v.length);have hN8:N<=8:=by rw[hN];exact Oe.out.2
   have hr:=HR.out;dsimp only at hr;rw[<-hN]at hr;have HR:=h_ hr;clear hr;have HN:=h_ hN;clear hN;by_cases h8:N=8
   ·rw[if_pos h8]at HR
    subst h8
    go_enter_defers func199,ntmps199
    go_wp2_with (first
     |(refine aS rfl 25 rfl _ _ (rm _) ?_)
     |(go_at_call 68;refine(mt.out _ IW.out.bL).mono ?_;rintro e w2 ⟨rfl,hb2⟩;have HT2:=h_ (IW.out.below (af _) hb2);clear hb2)
     |(go_at_call 207;refine(HR1.out _ HT2.out.bL).mono ?_;rintro e w3 ⟨⟨x,rfl,ho3⟩,hb3⟩;rw[<-HN.out]at ho3;obtain⟨av,cv,hv⟩:=eS ho3;subst hv;have kq:=h_ (Sl.dM ho3);clear ho3;have HT3:=h_ (HT2.out.below (af _) hb3);clear hb3)
     |((refine AB rfl (.tmp 25) (.tmp 26) _ _ rfl 24 underlying198 xW w w.heap.size Z8 false HT3.out (af _) 0 8 8 rfl av 8 cv rfl v HN.out.symm _ kq.out (by omega) (by omega) ?_);intro w4 Wi hg4;rw[show splice Z8 0 v=v by unfold splice;rw[<-HN.out];simp[Z8]]at Wi;have FG:=h_ Wi;clear Wi hg4)
     |(refine wpList_load_row rfl 25 (.tmp 2) rfl w.heap.size rfl _ _ _ _ FG.out.a underlying25 rfl (by rw[pj];simp[FG.out.len]) ?_)
     | (refine wpList_store_row rfl 25 (.tmp 2) (.tmp 28) rfl w.heap.size (dI v).toArray rfl rfl _ _ FG.out.a (by rw[pj];simp[FG.out.len]) (by simp) (Hp _) ?_
        have JQ:=FG.out.row (ds:=v) (af _) FG.out.len;revert JQ;generalize World.setRow _ w.heap.size (dI v).toArray=w5;intro JQ;obtain⟨hc5,hz5⟩:=JQ.cell;have Zq:=h_ JQ;clear JQ)
     |fail)
    exact pJ rfl rfl (Zq.out.set (af _) true) (by rw[HR.out];rfl) (by rw[HR.out];rfl)
   rw[if_neg h8]at HR;have h8':((N:Int)==8)=false:=by simp;omega
   go_enter_defers func199,ntmps199
   go_wp2_with (first
    |(refine aS rfl 25 rfl _ _ (rm _) ?_)
    |(go_at_call 68;refine(mt.out _ IW.out.bL).mono ?_;rintro e w2 ⟨rfl,hb2⟩;have HT2:=h_ (IW.out.below (af _) hb2);clear hb2)
    |(go_at_call 207;refine(HR1.out _ HT2.out.bL).mono ?_;rintro e w3 ⟨⟨x,rfl,ho3⟩,hb3⟩;rw[<-HN.out]at ho3;obtain⟨av,cv,hv⟩:=eS ho3;subst hv;have kq:=h_ (Sl.dM ho3);clear ho3;have HT3:=h_ (HT2.out.below (af _) hb3);clear hb3)
    | (refine wpList_store_row rfl 25 (.tmp 2) (.tmp 24) rfl _ (dI Z8).toArray rfl rfl _ _ HT3.out.a (by rw[pj];rfl) (by simp[Z8]) (Hp _) ?_
       have Wi:=HT3.out.row (ds:=Z8) (af _) rfl;revert Wi;generalize World.setRow _ w.heap.size (dI Z8).toArray=w4;intro Wi;obtain⟨hc4,hz4⟩:=Wi.cell;have FG:=h_ Wi;clear Wi)
    |fail)
   exact pJ rfl rfl (FG.out.set (af _) false) (by rw[HR.out];rfl) (by rw[HR.out];rfl)
 |some ab =>
  obtain⟨a,b⟩:=ab;rw[hc]at mY HR;have hr2:=hra a b hc;have hr3:=hrb a b hc;clear hra hrb hr1 hc;have mt:=h_ mY;clear mY;have hr0:R=(match qa false a,qa true b with|some l,some r=>if 8<=l.length+r.length then none else some (l++List.replicate (8-l.length-r.length) 0++r)|_,_=>none):=HR.out;have HR:=h_ hr0;clear hr0;cases hrr:qa false a with
  |none =>
   rw[hrr]at hr2 HR
   change ∀W,Below w.heap.size w W->Calls _ _ _ W fun e w'=>e=Jc∧Below W.heap.size W w' at hr2
   have HR2:=h_ hr2;clear hr2 hr3 hrr
   go_enter_defers func199,ntmps199
   go_wp2_with (first
    |(refine aS rfl 25 rfl _ _ (rm _) ?_)
    |(go_at_call 68;refine(mt.out _ IW.out.bL).mono ?_;rintro e w2 ⟨rfl,hb2⟩;have HT2:=h_ (IW.out.below (af _) hb2);clear hb2)
    |(go_at_call 207;with_reducible refine(HR2.out _ HT2.out.bL).mono ?_;rintro e w3 ⟨rfl,hb3⟩;have HT3:=h_ (HT2.out.below (af _) hb3);clear hb3)
    |fail)
   exact qT rfl rfl HT3.out (af _) HR.out
  |some u =>
   rw[hrr]at hr2 HR
   change ∀W,Below w.heap.size w W->Calls _ _ _ W fun e w'=>(∃x,e=.returned x∧w'.ownsRow W.heap.size 24 1 x u.length (dI u))∧Below W.heap.size W w' at hr2
   have HR2:=h_ hr2;clear hr2;obtain⟨L,hL⟩:=az (u.length);have hL8:L<=8:=by rw[hL];exact(jU hrr).2
   have HL:=h_ hL;clear hL hrr;cases hrr:qa true b with
   |none =>
    rw[hrr]at hr3 HR
    change ∀W,Below w.heap.size w W->Calls _ _ _ W fun e w'=>e=Jc∧Below W.heap.size W w' at hr3
    have HR3:=h_ hr3;clear hr3 hrr
    go_enter_defers func199,ntmps199
    go_wp2_with (first
    |(refine aS rfl 25 rfl _ _ (rm _) ?_)
    |(go_at_call 68;refine(mt.out _ IW.out.bL).mono ?_;rintro e w2 ⟨rfl,hb2⟩;have HT2:=h_ (IW.out.below (af _) hb2);clear hb2)
    |(go_at_call 207;with_reducible refine(HR2.out _ HT2.out.bL).mono ?_;rintro e w3 ⟨⟨x,rfl,ho3⟩,hb3⟩;clear ho3;have HT3:=h_ (HT2.out.below (af _) hb3);clear hb3)
    |(go_at_call 207;with_reducible refine(HR3.out _ HT3.out.bL).mono ?_;rintro e w4 ⟨rfl,hb4⟩;have FG:=h_ (HT3.out.below (af _) hb4);clear hb4)
    |fail)
    exact qT rfl rfl FG.out (af _) (by rw[HR.out])
   |some v =>
    rw[hrr]at hr3 HR
    change ∀W,Below w.heap.size w W->Calls _ _ _ W fun e w'=>(∃x,e=.returned x∧w'.ownsRow W.heap.size 24 1 x v.length (dI v))∧Below W.heap.size W w' at hr3
    have HR3:=h_ hr3;clear hr3;obtain⟨N,hN⟩:=az (v.length);have hN8:N<=8:=by rw[hN];exact(jU hrr).2
    have HN:=h_ hN;clear hN hrr;have hr:=HR.out;dsimp only at hr;rw[<-HL.out,<-HN.out]at hr;have HR:=h_ hr;clear hr;have hws:IntKind.i64.wrap ((L:Int)+(N:Int))=(L:Int)+(N:Int):=IntWalk.i64_in _ (by omega);by_cases h8:8<=L+N
    ·rw[if_pos h8]at HR
     have h8':(8:Int)<=(L:Int)+(N:Int):=by omega
     go_enter_defers func199,ntmps199
     go_wp2_with (first
    |(refine aS rfl 25 rfl _ _ (rm _) ?_)
    |(go_at_call 68;refine(mt.out _ IW.out.bL).mono ?_;rintro e w2 ⟨rfl,hb2⟩;have HT2:=h_ (IW.out.below (af _) hb2);clear hb2)
    |(go_at_call 207;with_reducible refine(HR2.out _ HT2.out.bL).mono ?_;rintro e w3 ⟨⟨x,rfl,ho3⟩,hb3⟩;rw[<-HL.out]at ho3;obtain⟨av,cv,hv⟩:=eS ho3;subst hv;clear ho3;have HT3:=h_ (HT2.out.below (af _) hb3);clear hb3)
    |(go_at_call 207;with_reducible refine(HR3.out _ HT3.out.bL).mono ?_;rintro e w4 ⟨⟨y,rfl,rN⟩,hb4⟩;rw[<-HN.out]at rN;obtain⟨aw,cw,hw⟩:=eS rN;subst hw;clear rN;have FG:=h_ (HT3.out.below (af _) hb4);clear hb4)
    | (refine wpList_store_row rfl 25 (.tmp 2) (.tmp 39) rfl _ (dI Z8).toArray rfl rfl _ _ FG.out.a (by rw[pj];rfl) (by simp[Z8]) (Hp _) ?_
       have JQ:=FG.out.row (ds:=Z8) (af _) rfl;revert JQ;generalize World.setRow _ w.heap.size (dI Z8).toArray=w5;intro JQ;obtain⟨hc5,hz5⟩:=JQ.cell;have Zq:=h_ JQ;clear JQ)
    |fail)
     exact pJ rfl rfl (Zq.out.set (af _) false) (by rw[HR.out];rfl) (by rw[HR.out];rfl)
    ·rw[if_neg h8]at HR
     have h8':¬ (8:Int)<=(L:Int)+(N:Int):=by omega
     obtain⟨K,hK⟩:=az (8-N);have hwk:IntKind.i64.wrap (8-(N:Int))=(K:Int):=by rw[IntWalk.i64_in _ (by omega)];omega
     have hK8:K<=8:=by omega
     have hKN:K+N=8:=by omega
     obtain⟨o',ho1,ho2,hsl⟩:=a1E w.heap.size K N hKN
     have a42:splice (splice Z8 0 u) o' v=u++List.replicate (8-L-N) 0++v:=by
      have e1:=HL.out;have e2:=HN.out;rw[e1,e2];exact Im (K:=K) (by omega) (by omega) (by rw[<-e2];exact ho2) (by omega)
     have a8b:=h_ a42;clear a42;have HK:=h_ hKN;clear hK hKN;have fg:=h_ ho2;clear ho2
     go_enter_defers func199,ntmps199
     go_wp2_with (first
    |(refine aS rfl 25 rfl _ _ (rm _) ?_)
    |(go_at_call 68;refine(mt.out _ IW.out.bL).mono ?_;rintro e w2 ⟨rfl,hb2⟩;have HT2:=h_ (IW.out.below (af _) hb2);clear hb2)
    |(go_at_call 207;with_reducible refine(HR2.out _ HT2.out.bL).mono ?_;rintro e w3 ⟨⟨x,rfl,ho3⟩,hb3⟩;rw[<-HL.out]at ho3;obtain⟨av,cv,hv⟩:=eS ho3;subst hv;have kq:=h_ ho3;clear ho3;have hz3:=HT2.out.lt;have HT3:=h_ (HT2.out.below (af _) hb3);clear hb3)
    |(go_at_call 207;with_reducible refine(HR3.out _ HT3.out.bL).mono ?_;rintro e w4 ⟨⟨y,rfl,rN⟩,hb4⟩;rw[<-HN.out]at rN;obtain⟨aw,cw,hw⟩:=eS rN;subst hw;have rk:=h_ rN;clear rN;have a7Y:=h_ (own_below kq.out hb4);have hz4:=HT3.out.lt;have FG:=h_ (HT3.out.below (af _) hb4);clear hb4)
    |((refine AB rfl (.tmp 40) (.tmp 41) _ _ rfl 24 underlying198 xW w w.heap.size Z8 false FG.out (af _) 0 8 8 rfl av L cv rfl u HL.out.symm _ (Sl.dM a7Y.out) (by omega) (by omega) ?_);intro w5 JQ hg5;have Zq:=h_ JQ;have yk:=h_ (rk.out.kept hg5 (WO rk.out (by omega)));clear JQ hg5)
    |((refine AB rfl (.tmp 46) (.tmp 47) _ _ rfl 24 underlying198 xW w w.heap.size _ false Zq.out (af _) o' N N rfl aw N cw rfl v HN.out.symm _ (Sl.dM yk.out) ho1 (af _) ?_);intro w6 ht6 hg6;rw[a8b.out]at ht6;have HT6:=h_ ht6;clear ht6 hg6)
    |(refine wpList_load_row rfl 25 (.tmp 2) rfl w.heap.size rfl _ _ _ _ HT6.out.a underlying25 rfl (by rw[pj];simp only[eJ,am,HT6.out.len]) ?_)
    | (refine wpList_store_row rfl 25 (.tmp 2) (.tmp 49) rfl w.heap.size (dI (u++List.replicate (8-L-N) 0++v)).toArray rfl rfl _ _ HT6.out.a (by rw[pj];simp only[eJ,am,HT6.out.len]) rfl (Hp _) ?_
       have ht7:=HT6.out.row (ds:=(u++List.replicate (8-L-N) 0++v)) (af _) HT6.out.len;revert ht7;generalize World.setRow _ w.heap.size (dI (u++List.replicate (8-L-N) 0++v)).toArray=w7;intro ht7;obtain⟨hc7,hz7⟩:=ht7.cell;have HT7:=h_ ht7;clear ht7)
    |fail)
     exact pJ rfl rfl (HT7.out.set (af _) true) (by rw[HR.out];rfl) (by rw[HR.out];rfl)

def zr(c:Int):Bool:=gg c||decide (c<32∨c=37∨c=127)
def H0:ie:={kind:=0,name:=[],four:=0,six:=Z8}
def Um(s:Bytes):Option ie:=if Lib.hasSuffix s [93]=true then(match mS (Lib.trimSuffix s [93])with|none=>none|some a=>some {H0 with kind:=4,six:=a})else none
def Ut(s:Bytes):Option ie :=
 match kL (mQ s)with
 |none=>none
 |some n=>if n=[]then none else if n.any (fun x=>zr (b2 x))=true then none else if rG n=true then(match mc n with|none=>none|some v=>some {H0 with kind:=3,four:=v})else some {H0 with kind:=2,name:=n}
def dh(s:Bytes)(special:Bool):Option ie :=
 if s.head? = some 91 then Um (s.drop 1)
 else if special=true then Ut s
 else if s=[]then some {H0 with kind:=1}
 else if s.any (fun x=>gg (b2 x))=true then none
 else some {H0 with kind:=5,name:=dq 0 s}
theorem Pa{f:UInt8->Bool}{l:Bytes}(h:∀ k (hk:k<l.length),f l[k]=false):l.any f=false:=by
 rw[Oi];intro x hx;obtain⟨k,hk,rfl⟩:=dz hx;simp[h k hk]
theorem Jf{f:UInt8->Bool}{l:Bytes}{k:Nat}(hk:k<l.length)(h:f l[k]=true):l.any f=true:=kr.mpr ⟨l[k],bw hk,h⟩

theorem Qf{t:Bytes}(hf:∀ p∈iU t,La p):kL t=some t:=by
 have hbytes:∀ y∈t,b2 y<0x80∧¬ (65<=b2 y∧b2 y<=90):=by
  have key:∀ (p:Bytes) (ps:List Bytes),(∀q∈p::ps,La q)->∀ y∈gl (p::ps),b2 y<0x80∧¬ (65<=b2 y∧b2 y<=90):=by
   intro p ps
   induction ps generalizing p with
   |nil =>
    intro hf y hy;unfold gl at hy;rw[Lib.join_one]at hy;have:=(hf p (by simp)).1 y hy;exact⟨this.1,this.2.1⟩
   |cons q qs ih =>
    intro hf y hy;rw[lm]at hy;rcases au.mp hy with hy|hy
    ·have:=(hf p (by simp)).1 y hy
     exact⟨this.1,this.2.1⟩
    rcases aj.mp hy with rfl|hy
    ·decide
    exact ih q (fun z hz=>hf z (by simp only[aj]at hz ⊢;exact .inr hz)) y hy
  obtain⟨p,ps,hp⟩:=pE t;have hj:=oR t;rw[hp]at hf hj;rw[<-hj];exact key p ps hf
 have hj:=rp (fun y hy=>(hbytes y hy).1)
 have hmap:∀ c∈t.map b2,eA c=(enc c,1)∧Utf8.valid c=true:=by
  intro c hc;obtain⟨y,hy,rfl⟩:=cm.mp hc;have h1:=hbytes y hy;have h0:=jr y;exact⟨Kk h0.1 h1.1 h1.2,(dG _).mpr (by omega)⟩
 have hsg:signs t=t.map b2:=by
  conv=>lhs;rw[hj]
  exact pg (fun c hc=>(hmap c hc).2)
 obtain⟨t1,t2⟩:=tv (m:=t.map b2) (fun c hc=>(hmap c hc).1);rw[<-hj]at t1;rw[pF,hsg];unfold LO;rw[if_pos t2,t1]
 have hout:(iU t).map gn=iU t:=by
  conv=>rhs;rw[<-List.map_id (iU t)]
  refine eN fun q hq=>?_;unfold gn;rw[(hf q hq).2];rfl
 rw[if_pos,hout,oR];exact bo.mpr fun q hq=>by unfold Ho;rw[(hf q hq).2];rfl
def d3F(u:Nat):Bytes:=if u<10 then [UInt8.ofNat (48+u)]else if u<100 then [UInt8.ofNat (48+u/10),UInt8.ofNat (48+u%10)]else [UInt8.ofNat (48+u/100),UInt8.ofNat (48+u/10%10),UInt8.ofNat (48+u%10)]
theorem Z1{u:Nat}(h:u<256):Lib.decDigits u=d3F u:=by
 unfold d3F;by_cases h1:u<10
 ·rw[if_pos h1,Lib.decDigits_one h1]
 rw[if_neg h1];by_cases h2:u<100
 ·rw[if_pos h2,Lib.decDigits_two h1 h2]
 rw[if_neg h2,Lib.decDigits,dif_neg h1,Lib.decDigits_two (by omega) (by omega),Nat.div_div_eq_div_mul];rfl
theorem PZ:∀ k:Fin 256,oV 4294967296 (d3F k.val)=some (k.val:Int)∧d3F k.val ≠ []∧(d3F k.val).length<=3∧(d3F k.val).all (fun y=>decide (48<=b2 y∧b2 y<=57))=true:=by decide +kernel
theorem fu{u:Nat}(h:u<256):oV 4294967296 (Lib.decDigits u)=some (u:Int)∧Lib.decDigits u ≠ []∧(Lib.decDigits u).length<=3∧∀ y∈Lib.decDigits u,48<=b2 y∧b2 y<=57:=by
 rw[Z1 h];obtain⟨a,b,c,d⟩:=PZ ⟨u,h⟩;exact⟨a,b,c,fun y hy=>of_decide_eq_true (bo.mp d y hy)⟩
theorem mF{u:Nat}(h:u<256):(46:UInt8)∉Lib.decDigits u:=fun hm=>by
 have:=(fu h).2.2.2 _ hm;revert this;decide
theorem P4{u:Nat}(h:u<256):La (Lib.decDigits u):=by
 obtain⟨_,h2,h3,h4⟩:=fu h;refine⟨fun y hy=>?_,a1T ?_ (Sj fun y hy=>by have:=h4 y hy;omega)⟩
 ·have:=h4 y hy
  exact⟨by omega,by omega,fun e=>mF h (e▸hy)⟩
 unfold Lib.hasPrefix iY
 match hd:Lib.decDigits u with
 | []=>rfl
 |y::r =>
  have:=h4 y (by rw[hd];simp);have hne:¬ (120:UInt8)=y:=fun e=>by rw[<-e]at this;revert this;decide
  simp[List.isPrefixOf,hne]
theorem DF{n:Nat}(hn:n<4294967296):et 46 (gW n)=[Lib.decDigits (n/16777216),Lib.decDigits (n/65536%256),Lib.decDigits (n/256%256),Lib.decDigits (n%256)]:=by
 unfold gW;simp only[aT,bd,bJ];rw[lg,lg,lg,gA (mF (by omega)),gA (mF (by omega)),gA (mF (by omega)),gA (mF (by omega))];rfl
theorem wl{n:Nat}(hn:n<4294967296):eC (gW n)=[Lib.decDigits (n/16777216),Lib.decDigits (n/65536%256),Lib.decDigits (n/256%256),Lib.decDigits (n%256)]:=by
 unfold eC;rw[DF hn,if_neg];rintro⟨_,h⟩;simp only[List.getLast?_cons_cons,a8x,dA]at h;exact(fu (u:=n%256) (by omega)).2.1 h
theorem Mh{n:Nat}(hn:n<4294967296):rG (gW n)=true:=by
 unfold rG
 have h:(eC (gW n)).getLast (lr _)=Lib.decDigits (n%256):=by
  simp only[wl hn];rfl
 rw[h];unfold Ec;rw[(fu (u:=n%256) (by omega)).1];rfl
theorem Mg{n:Nat}(hn:n<4294967296):mc (gW n)=some (n:Int):=by
 unfold mc fpF;rw[wl hn,if_neg (by simp)];unfold oJ;rw[(fu (u:=n/16777216) (by omega)).1];dsimp only;rw[if_neg (by omega)];unfold oJ;rw[(fu (u:=n/65536%256) (by omega)).1];dsimp only;rw[if_neg (by omega)];unfold oJ;rw[(fu (u:=n/256%256) (by omega)).1];dsimp only;rw[if_neg (by omega)];unfold oJ;rw[(fu (u:=n%256) (by omega)).1];dsimp only;simp only[room];rw[if_neg (by omega)]
 congr 1
 omega
theorem wk{n:Nat}(hn:n<4294967296):∀ y∈gW n,b2 y=46∨(48<=b2 y∧b2 y<=57):=by
 intro y hy;unfold gW at hy;have e:b2 46=46:=by decide
 simp only[au,bE]at hy;rcases hy with(((((h|rfl)|h)|rfl)|h)|rfl)|h
 ·exact .inr ((fu (by omega)).2.2.2 y h)
 ·exact .inl e
 ·exact .inr ((fu (by omega)).2.2.2 y h)
 ·exact .inl e
 ·exact .inr ((fu (by omega)).2.2.2 y h)
 ·exact .inl e
 exact .inr ((fu (by omega)).2.2.2 y h)
theorem JH(n:Nat):gW n ≠ []:=by
 unfold gW;simp
theorem QB{n:Nat}(hn:n<4294967296):kL (gW n)=some (gW n):=by
 refine Qf fun p hp=>?_;rw[<-vy,DF hn]at hp;simp only[aj,bl,or_false]at hp;rcases hp with rfl|rfl|rfl|rfl <;>exact P4 (by omega)
theorem Br:∀ {l:Bytes},(∀y∈l,b2 y≠37)->mQ l=l
 | [],_=>rfl
 | [c],_=>rfl
 | [c,x],_=>rfl
 |c::x::y::t,h=>by
  rw[mQ,if_neg (fun a=>h c (by simp) a.1),Br (fun z hz=>h z (by simp only[aj]at hz ⊢;exact .inr hz))]
theorem rX{set:Int}{l:Bytes}(h:∀ y∈l,ip set (b2 y)=false):dq set l=l:=by
 induction l with
 |nil=>rfl
 |cons x r ih =>
  have e:dq set (x::r)=tW set x++dq set r:=by unfold dq;simp
  rw[e,ih (fun y hy=>h y (by simp[hy]))];unfold tW;rw[if_neg (by rw[h x (by simp)];simp)];rfl
theorem in0(c:Int):ip 0 c=kj c:=by
 unfold ip;rw[if_neg (by omega)];have:nU 0=[]:=by unfold nU;simp
 rw[this];unfold jJ;simp
theorem SS:∀ k:Fin 256,(tW 0 (UInt8.ofNat k.val)).all (fun y=>decide (31<b2 y∧b2 y<=126)&&(gg (b2 (UInt8.ofNat k.val)) || !gg (b2 y)))=true:=by decide +kernel
theorem a1h{l:Bytes}{y:UInt8}(h:y∈dq 0 l):(31<b2 y∧b2 y<=126)∧∃ x∈l,gg (b2 x)=true∨gg (b2 y)=false:=by
 obtain⟨x,hx,hy⟩:=cT.mp h;have hf:=SS ⟨x.toNat,x.toNat_lt⟩;simp only[cM]at hf;have:=bo.mp hf y hy;rw[bD,fF]at this;refine⟨of_decide_eq_true this.1,x,hx,?_⟩;rcases this.2 with h|h
 ·exact .inl h
 exact .inr (by simpa using h)
theorem YJ{l:Bytes}(h:l ≠ []):dq 0 l ≠ []:=by
 cases l with
 |nil=>exact absurd rfl h
 |cons x r =>
  have e:dq 0 (x::r)=tW 0 x++dq 0 r:=by unfold dq;simp
  rw[e];unfold tW
  split <;>simp
inductive qh (s:Bytes) (sp:Bool):ie->Prop where
 |six (a:List Int) (h8:a.length=8) (ha:∀ n∈a,0<=n∧n<65536) (hs:s.head? = some 91):qh s sp {H0 with kind:=4,six:=a}
 |name (n:Bytes) (e:sp=true) (hs:s.head? ≠ some 91) (hd:kL (mQ s)=some n) (hn:n ≠ []) (hb:∀ y∈n,zr (b2 y)=false) (he:rG n=false):qh s sp {H0 with kind:=2,name:=n}
 |four (n:Nat) (e:sp=true) (hs:s.head? ≠ some 91) (h:n<4294967296):qh s sp {H0 with kind:=3,four:=n}
 |empty (e:sp=false) (h:s=[]):qh s sp {H0 with kind:=1}
 |Ej (e:sp=false) (hs:s.head? ≠ some 91) (h:s ≠ []) (hb:∀ y∈s,gg (b2 y)=false):qh s sp {H0 with kind:=5,name:=dq 0 s}
theorem Pb{α:Type}{f:α->Bool}{l:List α}(h:¬ l.any f=true):∀ y∈l,f y=false:=by
 have h2:l.any f=false:=by simpa using h
 intro y hy;have:=Oi.mp h2 y hy
 simpa using this
theorem hkind{s:Bytes}{sp:Bool}{h:ie}(e:dh s sp=some h):qh s sp h:=by
 unfold dh at e;by_cases h1:s.head? = some 91
 ·rw[if_pos h1]at e
  unfold Um at e
  split at e
  ·cases hs:mS (Lib.trimSuffix (s.drop 1) [93])with
   |none=>rw[hs]at e;cases e
   |some a =>
    rw[hs]at e;injection e with e
    subst e;exact .six a (nK hs).1 (nK hs).2 h1
  cases e
 rw[if_neg h1]at e;cases sp with
 |true =>
  rw[if_pos rfl]at e;unfold Ut at e;cases hd:kL (mQ s)with
  |none=>rw[hd]at e;cases e
  |some n =>
   rw[hd]at e;dsimp only at e
   split at e
   ·cases e
   next hn =>
   split at e
   ·cases e
   next hb =>
   split at e
   ·next he =>
    cases hf:mc n with
    |none=>rw[hf]at e;cases e
    |some v =>
     rw[hf]at e;injection e with e
     subst e;have hv:=AV hf;obtain⟨m,hm⟩:∃ m:Nat,v=m:=⟨v.toNat,by omega⟩;subst hm;exact .four m rfl h1 (by omega)
   next he =>
   injection e with e
   subst e;exact .name n rfl h1 hd hn (Pb hb) (by simpa using he)
 |false =>
  rw[if_neg (by simp)]at e
  split at e
  ·next hn =>
   injection e with e
   subst e;exact .empty rfl hn
  next hn =>
  split at e
  ·cases e
  next hb =>
  injection e with e
  subst e;exact .Ej rfl h1 hn (Pb hb)
theorem EY(q:Bytes)(x:UInt8):Lib.hasSuffix (q++[x]) [93]=decide (x=93):=by
 unfold Lib.hasSuffix;rw[cK,a2e,decide_eq_true_eq];constructor
 ·rintro⟨t,h⟩
  have:=List.append_inj' h rfl;injection this.2 with h1
  exact h1.symm
 rintro rfl;exact⟨q,rfl⟩
theorem NT(q:Bytes):Lib.trimSuffix (q++[93]) [93]=q:=by
 unfold Lib.trimSuffix;rw[EY,if_pos (by simp)];simp
theorem Vv{a:List Int}(h8:a.length=8)(ha:∀ n∈a,0<=n∧n<65536)(sp:Bool):dh ([91]++kS a++[93]) sp=some {H0 with kind:=4,six:=a}:=by
 unfold dh;rw[if_pos (by rfl)];show Um (kS a++[93])=_;unfold Um;rw[EY,if_pos (by simp),NT,Tl a h8 ha]
theorem A7{n:Bytes}(h:∀ y∈n,gg (b2 y)=false):n.head? ≠ some 91:=by
 intro e;cases n with
 |nil=>cases e
 |cons x r =>
  injection e with e
  have:=h x (by simp);rw[e]at this;revert this;decide
theorem sZ{c:Int}(h:zr c=false):gg c=false∧¬ (c<32∨c=37∨c=127):=by
 unfold zr at h;rw[gN]at h;exact⟨h.1,of_decide_eq_false h.2⟩
theorem yO{c:Int}(h:gg c=false):c≠32:=fun e=>by rw[e]at h;revert h;decide
theorem Qa{c:Int}(h:c=46∨(48<=c∧c<=57)):zr c=false:=by
 unfold zr gg;rw[gN];exact⟨decide_eq_false (by omega),decide_eq_false (by omega)⟩
theorem As{α:Type}{f:α->Bool}{l:List α}(h:∀ y∈l,f y=false):¬ l.any f=true:=by
 rw[kr];rintro⟨x,hx,e⟩;rw[h x hx]at e;cases e
theorem MX{n:Bytes}{b:Bytes}(hd:kL b=some n)(hn:n ≠ [])(hb:∀ y∈n,zr (b2 y)=false)(he:rG n=false):dh n true=some {H0 with kind:=2,name:=n}:=by
 unfold dh;rw[if_neg (A7 fun y hy=>(sZ (hb y hy)).1),if_pos rfl];unfold Ut;rw[Br (fun y hy e=>(sZ (hb y hy)).2 (by omega)),(Dp hd).2];dsimp only;rw[if_neg hn,if_neg (As hb),if_neg (by simp[he])]
theorem Gu{n:Nat}(h:n<4294967296):dh (gW n) true=some {H0 with kind:=3,four:=n}:=by
 have hb:∀ y∈gW n,zr (b2 y)=false:=fun y hy=>Qa (wk h y hy);unfold dh;rw[if_neg (A7 fun y hy=>(sZ (hb y hy)).1),if_pos rfl];unfold Ut;rw[Br (fun y hy e=>(sZ (hb y hy)).2 (by omega)),QB h];dsimp only;rw[if_neg (JH n),if_neg (As hb),if_pos (Mh h),Mg h]
theorem WM{s:Bytes}(h:s ≠ [])(hb:∀ y∈s,gg (b2 y)=false):dh s false=some {H0 with kind:=5,name:=dq 0 s}:=by
 unfold dh;rw[if_neg (A7 hb),if_neg (by simp),if_neg h,if_neg (As hb)]
theorem M4{s:Bytes}(h:s ≠ [])(hb:∀ y∈s,gg (b2 y)=false)(hc:∀ y∈s,31<b2 y∧b2 y<=126):dh s false=some {H0 with kind:=5,name:=s}:=by
 rw[WM h hb,rX];intro y hy;rw[in0];unfold kj;have:=hc y hy;exact decide_eq_false (by omega)
theorem rO(h:ie)(hk:h.kind=4):dE h=[91]++kS h.six++[93]:=by
 unfold dE;rw[if_neg (by omega),if_neg (by omega),if_pos hk]
theorem gC{s:Bytes}{sp:Bool}{h:ie}(e:dh s sp=some h):dh (dE h) sp=some h∧(h.kind≠4->∀ y∈dE h,32<b2 y∧b2 y<=126∧gg (b2 y)=false)∧(dE h=[] ↔ h.kind=1):=by
 cases hkind e with
 |six a h8 ha hs =>
  have hf:dE {H0 with kind:=4,six:=a}=[91]++kS a++[93]:=rfl;rw[hf];exact⟨Vv h8 ha sp,fun h=>absurd rfl h,by simp⟩
 |name n es hs hd hn hb he =>
  subst es;have hf:dE {H0 with kind:=2,name:=n}=n:=rfl;rw[hf];refine⟨MX hd hn hb he,fun _ y hy=>?_,by simp[hn]⟩;have h1:=sZ (hb y hy);have h2:=(Dp hd).1 y hy;have h3:=yO h1.1;exact⟨by omega,by omega,h1.1⟩
 |four n es hs h =>
  subst es;have hf:dE {H0 with kind:=3,four:=(n:Int)}=gW n:=rfl;rw[hf];refine⟨Gu h,fun _ y hy=>?_,by simp[JH n]⟩;have:=wk h y hy;exact⟨by omega,by omega,(sZ (Qa this)).1⟩
 |empty es hs =>
  subst es;have hf:dE {H0 with kind:=1}=[]:=rfl;rw[hf];refine⟨rfl,fun _ y hy=>(by cases hy),by simp⟩
 |Ej es hs h hb =>
  subst es;have hf:dE {H0 with kind:=5,name:=dq 0 s}=dq 0 s:=rfl;rw[hf]
  have hb2:∀ y∈dq 0 s,(31<b2 y∧b2 y<=126)∧gg (b2 y)=false:=fun y hy=>by
   obtain⟨h1,x,hx,h2⟩:=a1h hy;refine⟨h1,?_⟩;rcases h2 with h2|h2
   ·rw[hb x hx]at h2;cases h2
   exact h2
  refine⟨M4 (YJ h) (fun y hy=>(hb2 y hy).2) (fun y hy=>(hb2 y hy).1),fun _ y hy=>?_,by simp[YJ h]⟩;obtain⟨h1,h2⟩:=hb2 y hy;have h3:=yO h2;exact⟨by omega,h1.2,h2⟩

abbrev cd(h:ie):Array Value:=(aZ h).toArray
theorem ro(w:World):(Instr.alloc 27 true (Value.tuple #[])).run prog w=.ok (.pointer (some ⟨w.heap.size,0,none⟩)) (w.alloc (.cells (cd H0) 27)):=by kernel_rfl
theorem a3D:∀ w,(Instr.build 27 #[(0,.int .i64 1)]).run prog w=.ok (.agg (cd {H0 with kind:=1})) w:=fun w=>by kernel_rfl
theorem a3E(n:Bytes):∀ w,(Instr.build 27 #[(0,.int .i64 2),(1,.string (bs n))]).run prog w=.ok (.agg (cd {H0 with kind:=2,name:=n})) w:=fun w=>by kernel_rfl
theorem a3H(n:Bytes):∀ w,(Instr.build 27 #[(0,.int .i64 5),(1,.string (bs n))]).run prog w=.ok (.agg (cd {H0 with kind:=5,name:=n})) w:=fun w=>by kernel_rfl
theorem a3F(v:Int):∀ w,(Instr.build 27 #[(0,.int .i64 3),(2,.int .u32 v)]).run prog w=.ok (.agg (cd {H0 with kind:=3,four:=v})) w:=fun w=>by kernel_rfl
theorem a3G(a:List Int)(h:a.length=8):∀ w,(Instr.build 27 #[(0,.int .i64 4),(3,.agg (dI a).toArray)]).run prog w=.ok (.agg (cd {H0 with kind:=4,six:=a})) w:=fun w=>by
 obtain⟨a,b,c,d,e,f,g,i,rfl⟩:=eight h
 kernel_rfl
theorem hsize(h:ie)(hl:h.six.length=8):(prog.info? 27).map (·.size)=some (cd h).size:=by
 rw[jQ];simp[aZ,hl]
theorem Yv(h:ie):(cd h).all (·.oneCell')=true:=by
 rw[Array.all_eq_true];intro i hi;have hm:(cd h)[i]∈aZ h:=by simp
 simp only[aZ,aj,cm]at hm;rcases hm with e|e|e|⟨_,_,e⟩ <;>first|(rw[e];rfl)|(rw[<-e];rfl)
structure Cw (w:World) (b:Nat) (h:ie) (wr:World):Prop where
 a:wr.heap[b]? = some (.cells (cd h) 27 (0,0))
 l:h.six.length=8
 bL:Below w.heap.size w wr
theorem Cw.lt{w:World}{b:Nat}{h:ie}{wr:World}(i:Cw w b h wr):b<wr.heap.size:=(bQ.1 i.a).1
theorem Cw.below{w:World}{b:Nat}{h:ie}{wr w2:World}(i:Cw w b h wr)(hb:w.heap.size<=b)(h2:Below wr.heap.size wr w2):Cw w b h w2:=by
 have:=i.lt;exact⟨(h2.block b (by omega)).trans i.a,i.l,i.bL.trans (h2.mono (by omega))⟩
theorem Cw.alloc{w:World}{b:Nat}{h:ie}{wr:World}(i:Cw w b h wr)(o:Obj)(hb:w.heap.size<=b):Cw w b h (wr.alloc o):=i.below hb ((Below.refl _ wr).alloc (af _) o)
theorem Cw.put{w:World}{b:Nat}{h g:ie}{wr:World}(i:Cw w b h wr)(hb:w.heap.size<=b)(hl:g.six.length=8):Cw w b g (wr.setRow b (cd g)) :=
 ⟨setRow_heap wr b _ _ _ _ i.a,hl,below_setRow i.bL hb _⟩
theorem sQ(w:World):Cw w w.heap.size H0 (w.alloc (.cells (cd H0) 27)):=⟨heap_alloc_new w _,rfl,(Below.refl _ w).alloc (af _) _⟩
abbrev zf(o:Option ie):Ending:=.returned (.tuple #[.agg (cd (o.getD H0)),.bool o.isSome])
theorem pK(w:World)(b:Nat)(h:ie)(i:w.heap[b]? = some (.cells (cd h) 27 (0,0)))(hl:h.six.length=8):(loadVar 27 ⟨b,0,none⟩).run prog w=.ok (.agg (cd h)) w :=
 run_loadVar_row (P:=prog) w b 27 27 (cd h) (0,0) _ i underlying27 rfl (hsize h hl)
theorem ej{ops:Array Oper}{rest:List Oper}{o:Oper}{a:Act}{w:World}{Q:Exit->Act->World->Prop}(hgd:o.guard=none)(x y:Operand)(ho:o.op=.store 27 x y)
  (w0:World) (b:Nat) (h g:ie) (i:Cw w0 b h w) (hb:w0.heap.size<=b) (hl:g.six.length=8) (hx:a.eval x=.pointer (some ⟨b,0,none⟩)) (hy:a.eval y=.agg (cd g))
  (k:∀ w',Cw w0 b g w'->wpList prog ops Q rest (a.put o.dst undef) w'):wpList prog ops Q (o::rest) a w:=by
 refine wpList_store_row hgd _ x y ho b (cd g) hx hy _ _ i.a (hsize g hl) ?_ (Yv g) (k _ (i.put hb hl));simp[aZ,i.l,hl]
theorem Az{ops:Array Oper}{rest:List Oper}{o:Oper}{a:Act}{w:World}{Q:Exit->Act->World->Prop}(hgd:o.guard=none)(i j:Nat)(x y:Operand)(ho:o.op=.build 27 #[(i,x),(j,y)])
  (X Y v:Value) (hx:a.eval x=X) (hy:a.eval y=Y) (hr:∀ w,(Instr.build 27 #[(i,X),(j,Y)]).run prog w=.ok v w) (k:wpList prog ops Q rest (a.put o.dst v) w):wpList prog ops Q (o::rest) a w:=by
 refine jw hgd _ _ ho v #[(i,X),(j,Y)] ?_ hr k;subst hx;subst hy;simp
theorem ZV{ops:Array Oper}{rest:List Oper}{o:Oper}{a:Act}{w:World}{Q:Exit->Act->World->Prop}(hgd:o.guard=none)(i:Nat)(x:Operand)(ho:o.op=.build 27 #[(i,x)])
  (X v:Value) (hx:a.eval x=X) (hr:∀ w,(Instr.build 27 #[(i,X)]).run prog w=.ok v w) (k:wpList prog ops Q rest (a.put o.dst v) w):wpList prog ops Q (o::rest) a w:=by
 refine jw hgd _ _ ho v #[(i,X)] ?_ hr k;subst hx;simp
theorem Ge(l m:Bytes)(w:World)(hl:l.length<=1024000000):bV prog 136 #[.string (bs l),.string (bs m)] w (.tuple #[S (Lib.trimSuffix l m),.bool (Lib.hasSuffix l m)]):=by
 have h:=Any.strings_CutSuffix laysCutS (bs l) (bs m) w (by rw[aM];omega);rw[show(bs l).data.toList=l from dR l,show(bs m).data.toList=m from dR m]at h;exact h
theorem TC(l m:Bytes):(Lib.trimSuffix l m).length<=l.length:=by
 unfold Lib.trimSuffix
 split
 ·rw[aE];omega
 exact af _
theorem ZS{tmps:Array Value}{w w2:World}{b:Nat}{h:ie}{q:Bool}(h2:tmps.getD 2 undef=.pointer (some ⟨b,0,none⟩))(h3:tmps.getD 3 undef=.bool q)(i:Cw w b h w2){R:Option ie}(hR:h=R.getD H0)(hq:q=R.isSome) :
  bodyPost prog f185 (fun e w'=>e=zf R∧Below w.heap.size w w') Exit.ret {tmps:=tmps,defers:=[]} w2:=by
 have h2':tmps[2]?.getD undef=.pointer (some ⟨b,0,none⟩):=by simpa using h2
 have h3':tmps[3]?.getD undef=.bool q:=by simpa using h3
 have hl:=pK w2 b h i.a i.l;refine bodyPost_ret (v:=.tuple #[.agg (cd h),.bool q]) ?_ rfl ⟨by rw[hR,hq],i.bL⟩;simp[results,results185,asAddr,h2',h3',hl]
theorem yy(l:Bytes)(w:World)(hl:l.length<=1024000000)(hE:Env w):Calls prog 185 #[.string (bs l)] w fun e w'=>e=zf (Um l)∧Below w.heap.size w w':=by
 have hcs:=fun W=>Ge l [93] W hl;rw[show bs [93]=⟨#[93]⟩from rfl]at hcs;have htl:=TC l [93];have hsx:=fun W (h:Below w.heap.size w W)=>BF (Lib.trimSuffix l [93]) W (by omega) (hE.below h);obtain⟨R,hR⟩:=az (Um l);rw[<-hR];unfold Um at hR;have hrg:=fun a (h:mS (Lib.trimSuffix l [93])=some a)=>(nK h).1;obtain⟨T,hT⟩:=az (Lib.trimSuffix l [93]);rw[<-hT]at hcs hsx hR hrg;obtain⟨q,hq⟩:=az (Lib.hasSuffix l [93]);rw[<-hq]at hcs hR;clear hT hq htl hE;obtain⟨s,hs⟩:=az (bs l);rw[<-hs]at hcs ⊢;clear hs hl;have Cm:=h_ hcs;clear hcs;have HI:=h_ (sQ w);cases q with
 |false =>
  rw[if_neg (by simp)]at hR;have HR:=h_ hR;clear hR hsx hrg;go_enter func185,ntmps185
  go_wp2_with (first
   |(refine aS rfl 27 rfl _ _ (ro _) ?_)
   |(go_at_call 136;refine(Cm.out _).mono ?_;rintro e w2 ⟨rfl,hw2⟩;subst hw2)
   |(refine ej rfl (.tmp 2) (.tmp 15) rfl w w.heap.size _ H0 HI.out (af _) rfl rfl rfl ?_;intro w3 i3;have HI3:=h_ i3;clear i3)
   |fail)
  exact ZS rfl rfl HI3.out (by rw[HR.out];rfl) (by rw[HR.out];rfl)
 |true =>
  rw[if_pos rfl]at hR;cases yA:mS T with
  |none =>
   rw[yA]at hR hsx
   change ∀W,Below w.heap.size w W->Calls _ _ _ W fun e w'=>e=.returned (.tuple #[.agg (dI Z8).toArray,.bool false])∧Below W.heap.size W w' at hsx
   have HR:=h_ hR;clear hR hrg yA;have Cv:=h_ hsx;clear hsx;go_enter func185,ntmps185
   go_wp2_with (first
    |(refine aS rfl 27 rfl _ _ (ro _) ?_)
    |(go_at_call 136;refine(Cm.out _).mono ?_;rintro e w2 ⟨rfl,hw2⟩;subst hw2)
    |(go_at_call 199;refine(Cv.out _ HI.out.bL).mono ?_;rintro e w2 ⟨rfl,hb2⟩;have HI2:=h_ (HI.out.below (af _) hb2);clear hb2)
    |(refine aS rfl 25 rfl _ _ (rm _) ?_)
    |(refine gD rfl 25 (.tmp 6) (.tmp 19) rfl (dI Z8).toArray (dI Z8).toArray _ rfl rfl (by rw[pj];rfl) rfl (Hp _) ?_;have HI3:=h_ (HI2.out.alloc (.cells (dI Z8).toArray 25) (af _)))
    |(refine ej rfl (.tmp 2) (.tmp 23) rfl w w.heap.size _ H0 HI3.out (af _) rfl rfl rfl ?_;intro w4 i4;have HI4:=h_ i4;clear i4)
    |fail)
   exact ZS rfl rfl HI4.out (by rw[HR.out];rfl) (by rw[HR.out];rfl)
  |some a =>
   rw[yA]at hR hsx
   change ∀W,Below w.heap.size w W->Calls _ _ _ W fun e w'=>e=.returned (.tuple #[.agg (dI a).toArray,.bool true])∧Below W.heap.size W w' at hsx
   have ha:=hrg a yA;have HA8:=h_ ha;have hbl:=a3G a ha;obtain⟨G,hG⟩:∃ G:ie,G={H0 with kind:=4,six:=a}:=⟨_,rfl⟩;have hG8:G.six.length=8:=by rw[hG];exact ha
   replace hR:R=some G:=by rw[hR,hG]
   rw[<-hG]at hbl;clear hG;have UK:=h_ hG8;clear hG8;have mW:=h_ hbl;clear hbl;have HR:=h_ hR;clear hR hrg yA ha;have Cv:=h_ hsx;clear hsx;obtain⟨ca,hca⟩:=az ((dI a).toArray);rw[<-hca]at Cv mW;have h8:ca.size=8:=by rw[hca];simp[HA8.out]
   have hon:ca.all (·.oneCell')=true:=by rw[hca];exact Hp a
   clear hca;have HON:=h_ hon;clear hon;go_enter func185,ntmps185
   go_wp2_with (first
    |(refine aS rfl 27 rfl _ _ (ro _) ?_)
    |(go_at_call 136;refine(Cm.out _).mono ?_;rintro e w2 ⟨rfl,hw2⟩;subst hw2)
    |(go_at_call 199;refine(Cv.out _ HI.out.bL).mono ?_;rintro e w2 ⟨rfl,hb2⟩;have HI2:=h_ (HI.out.below (af _) hb2);clear hb2)
    |(refine aS rfl 25 rfl _ _ (rm _) ?_)
    |(refine gD rfl 25 (.tmp 6) (.tmp 19) rfl ca (dI Z8).toArray _ rfl rfl (by rw[pj,h8]) (by rw[h8];rfl) HON.out ?_;have HI3:=h_ (HI2.out.alloc (.cells ca 25) (af _)))
    |(refine wY rfl 25 (.tmp 6) rfl ca _ rfl _ underlying25 rfl (by rw[pj,h8]) ?_)
    |(refine Az rfl 0 3 (.const (.int .i64 4)) (.tmp 24) rfl (.int .i64 4) (.agg ca) (.agg (cd G)) rfl rfl mW.out ?_)
    |(refine ej rfl (.tmp 2) (.tmp 25) rfl w w.heap.size _ G HI3.out (af _) UK.out rfl rfl ?_;intro w4 i4;have HI4:=h_ i4;clear i4)
    |fail)
   exact ZS rfl rfl HI4.out (by rw[HR.out];rfl) (by rw[HR.out];rfl)

theorem Bl{tmps:Array Value}{w w2:World}{b:Nat}{h:ie}{q:Bool}(h2:tmps.getD 2 undef=.pointer (some ⟨b,0,none⟩))(h3:tmps.getD 3 undef=.bool q)(i:Cw w b h w2){R:Option ie}(hR:h=R.getD H0)(hq:q=R.isSome) :
  bodyPost prog f186 (fun e w'=>e=zf R∧Below w.heap.size w w') Exit.ret {tmps:=tmps,defers:=[]} w2:=by
 have h2':tmps[2]?.getD undef=.pointer (some ⟨b,0,none⟩):=by simpa using h2
 have h3':tmps[3]?.getD undef=.bool q:=by simpa using h3
 have hl:=pK w2 b h i.a i.l;refine bodyPost_ret (v:=.tuple #[.agg (cd h),.bool q]) ?_ rfl ⟨by rw[hR,hq],i.bL⟩;simp[results,results186,asAddr,h2',h3',hl]
theorem pN:∀ (n:Nat) (l:Bytes),l.length<=n->(mQ l).length<=l.length
 |0,l,h=>by
  obtain rfl:l=[]:=ak (by omega);simp[mQ]
 |n+1,[],_=>by simp[mQ]
 |n+1,[c],_=>by simp[mQ]
 |n+1,[c,x],_=>by simp[mQ]
 |n+1,c::x::y::t,h=>by
  rw[mQ]
  split
  ·have:=pN n t (by simp at h;omega)
   simp;omega
  have:=pN n (x::y::t) (by simp at h ⊢;omega);simp at this ⊢;omega
theorem MY(l:Bytes)(w:World)(hl:l.length<=307200000)(ht:(el (signs (mQ l))).length<=102400000)(hn:∀ n,kL (mQ l)=some n->n.length<=102400000)(hE:Env w) :
  Calls prog 186 #[.string (bs l)] w fun e w'=>e=zf (Ut l)∧Below w.heap.size w w':=by
 have hpd:=fun W=>Em l W (by omega);have hpl:=pN _ l (af _);have QV:=fun W (h:Below w.heap.size w W)=>Gj (mQ l) W (by omega) ht (hE.below h);obtain⟨R,hR⟩:=az (Ut l);rw[<-hR];unfold Ut at hR;obtain⟨D,hD⟩:=az (mQ l);rw[<-hD]at hpd QV hR hn;clear hD hpl ht hl;obtain⟨s,hs⟩:=az (bs l);rw[<-hs]at hpd ⊢;clear hs;have HPD:=h_ hpd;clear hpd;have Uc:=h_ hE;clear hE;have HI:=h_ (sQ w);cases hd:kL D with
 |none =>
  rw[hd]at hR QV;have HR:=h_ (show R=none from hR);clear hR hn hd
  change ∀W,Below w.heap.size w W->Calls _ _ _ W fun e w'=>e=.returned (.tuple #[S [],.bool false])∧Below W.heap.size W w' at QV
  have HDM:=h_ QV;clear QV;go_enter func186,ntmps186
  go_wp2_with (first
   |(refine aS rfl 27 rfl _ _ (ro _) ?_)
   |(go_at_call 201;refine(HPD.out _).mono ?_;rintro e w2 ⟨v,rfl,ho2,hb2⟩;have HCV:=h_ (ki (P:=prog) (src:=50) (dst:=9) underlying50 underlying5 underlying9 ho2);have hcv:=HCV.out;clear ho2;have HI2:=h_ (HI.out.below (af _) hb2);clear hb2)
   |(go_at_call 200;refine(HDM.out _ HI2.out.bL).mono ?_;rintro e w3 ⟨rfl,hb3⟩;have HI3:=h_ (HI2.out.below (af _) hb3);clear hb3)
   |(refine ej rfl (.tmp 2) (.tmp 22) rfl w w.heap.size _ H0 HI3.out (af _) rfl rfl rfl ?_;intro w4 i4;have HI4:=h_ i4;clear i4)
   |fail)
  exact Bl rfl rfl HI4.out (by rw[HR.out];rfl) (by rw[HR.out];rfl)
 |some n =>
  rw[hd]at hR QV;have hnm:=hn n hd;replace hR:R=if n=[]then none else if n.any (fun x=>zr (b2 x))=true then none else if rG n=true then(match mc n with|none=>none|some v=>some {H0 with kind:=3,four:=v})else some {H0 with kind:=2,name:=n}:=hR;have hen:=fun W (h:Below w.heap.size w W)=>Qp n W hnm (Uc.out.below h);have hfp:=fun W (h:Below w.heap.size w W)=>Gv n W hnm (Uc.out.below h);have hyes:∀ k (hk:k<n.length),zr (b2 n[k])=true->(n.any fun x=>zr (b2 x))=true:=fun k hk h=>Jf (f:=fun x=>zr (b2 x)) hk h;have hno:(∀k (hk:k<n.length),zr (b2 n[k])=false)->(n.any fun x=>zr (b2 x))=false:=fun h=>Pa (f:=fun x=>zr (b2 x)) h;have hb2:=a3E n;obtain⟨G2,hG2⟩:∃ G:ie,G={H0 with kind:=2,name:=n}:=⟨_,rfl⟩;have a0m:G2.six.length=8:=by rw[hG2];rfl
  rw[<-hG2]at hb2 hR;clear hG2;obtain⟨u,hu⟩:=az (bs n)
  change ∀W,Below w.heap.size w W->Calls _ _ _ W fun e w'=>e=.returned (.tuple #[.string (bs n),.bool true])∧Below W.heap.size W w' at QV
  rw[<-hu]at QV hen hfp hb2;have hsz:u.size=n.length:=by rw[hu,aM]
  have hby:∀ k (hk:k<u.size) (hk2:k<n.length),((u[k]'hk).toNat:Int)=b2 n[k]:=fun k hk hk2=>cJ hu hk hk2;have hue:(u.toList=[]) ↔ n=[]:=by rw[hu,ay]
  clear hu hn hd;have HDM:=h_ QV;clear QV;by_cases hnil:n=[]
  ·rw[if_pos hnil]at hR
   have he2:=hue.mpr hnil;have he:u.toList.isEmpty=true:=by rw[he2];rfl
   have HR:=h_ hR;clear hR hen hfp hyes hno hb2 hby hue hnil hsz a0m;go_enter func186,ntmps186
   go_wp2_with (first
   |(refine aS rfl 27 rfl _ _ (ro _) ?_)
   |(go_at_call 201;refine(HPD.out _).mono ?_;rintro e w2 ⟨v,rfl,ho2,hb2⟩;have HCV:=h_ (ki (P:=prog) (src:=50) (dst:=9) underlying50 underlying5 underlying9 ho2);have hcv:=HCV.out;clear ho2;have HI2:=h_ (HI.out.below (af _) hb2);clear hb2)
   |(go_at_call 200;refine(HDM.out _ HI2.out.bL).mono ?_;rintro e w3 ⟨rfl,hb3⟩;have HI3:=h_ (HI2.out.below (af _) hb3);clear hb3)
   |(refine ej rfl (.tmp 2) (.tmp 22) rfl w w.heap.size _ H0 HI3.out (af _) rfl rfl rfl ?_;intro w4 i4;have HI4:=h_ i4;clear i4)
   |fail)
   exact Bl rfl rfl HI4.out (by rw[HR.out];rfl) (by rw[HR.out];rfl)
  rw[if_neg hnil]at hR;have he2:¬ u.toList=[]:=fun h=>hnil (hue.mp h);have he:u.toList.isEmpty=false:=by simpa using he2
  obtain⟨N,hN⟩:=az (u.size);have lk:u.size=N:=hN.symm;have p7:N<=102400000:=by omega
  have fL:=h_ (show N=n.length by omega);clear hN hsz hnm hue hnil;have kd:=h_ hby;clear hby;have Zt:=h_ hyes;clear hyes;have UQ:=h_ hno;clear hno;have HR:=h_ hR;clear hR;have Am:=h_ hen;clear hen;have XR:=h_ hfp;clear hfp;have HB2:=h_ hb2;clear hb2;have a7A:=h_ a0m;clear a0m;go_enter func186,ntmps186
  go_wp2_with (first
   |(refine aS rfl 27 rfl _ _ (ro _) ?_)
   |(go_at_call 201;refine(HPD.out _).mono ?_;rintro e w2 ⟨v,rfl,ho2,hb2⟩;have HCV:=h_ (ki (P:=prog) (src:=50) (dst:=9) underlying50 underlying5 underlying9 ho2);have hcv:=HCV.out;clear ho2;have HI2:=h_ (HI.out.below (af _) hb2);clear hb2)
   |(go_at_call 200;refine(HDM.out _ HI2.out.bL).mono ?_;rintro e w3 ⟨rfl,hb3⟩;have HI3:=h_ (HI2.out.below (af _) hb3);clear hb3)
   |fail)
  go_loopw [25] (fun iv wr=>∃ k:Nat,k<=N∧iv=.int .i64 k∧Hid (∀j (hj:j<n.length),j<k->zr (b2 n[j])=false)∧w3=wr) (fun i _=>N-(intOf i).toNat)
  case atStart=>exact⟨0,aK _,by simp,fun j _ h=>absurd h (cg j),rfl⟩
  case round =>
   obtain⟨k,hk,rfl,hall,rfl⟩:=hrel;by_cases hlt:k<N
   ·have nS:k<u.size:=by rw[lk];exact hlt
    have hkl:k<n.length:=by have:=fL.out;omega
    have hx:=kd.out k nS hkl;have hy:zr (b2 n[k])=true->R=none:=fun h=>by rw[HR.out,if_pos (Zt.out k hkl h)]
    have hsn:zr (b2 n[k])=false->∀ j (hj:j<n.length),j<k+1->zr (b2 n[j])=false:=fun h j hj h1=>by
     rcases cZ j k with h2|h2
     ·exact hall.out j hj h2
     obtain rfl:j=k:=by omega
     exact h
    have hbd:=fun W=>Jp (b2 n[k]) W;generalize b2 n[k]=X at hx hy hsn hbd;have qy:=h_ hbd;clear hbd hall;have hdef:zr X=(gg X||decide (X<32∨X=37∨X=127)):=rfl;rw[hdef]at hy hsn;clear hdef;obtain⟨q,hq⟩:=az (gg X);rw[<-hq]at hy hsn qy;have HQ:=h_ hq;clear hq;cases q with
    |true =>
     have HF:=h_ (hy rfl);clear hy hsn
     go_wp2_with (first
      |(go_at_call 187;refine(qy.out _).mono ?_;rintro e w4 ⟨rfl,hw4⟩;subst hw4)
      |(refine ej rfl (.tmp 2) (.tmp 45) rfl w w.heap.size _ H0 HI3.out (af _) rfl rfl rfl ?_;intro w5 i5;have Cn:=h_ i5;clear i5)
      |fail)
     exact Bl rfl rfl Cn.out (by rw[HF.out];rfl) (by rw[HF.out];rfl)
    |false =>
     by_cases h1:X<32
     ·have HF:=h_ (hy (by simp[h1]));clear hy hsn
      go_wp2_with (first
       |(go_at_call 187;refine(qy.out _).mono ?_;rintro e w4 ⟨rfl,hw4⟩;subst hw4)
       |(refine ej rfl (.tmp 2) (.tmp 45) rfl w w.heap.size _ H0 HI3.out (af _) rfl rfl rfl ?_;intro w5 i5;have Cn:=h_ i5;clear i5)
       |fail)
      exact Bl rfl rfl Cn.out (by rw[HF.out];rfl) (by rw[HF.out];rfl)
     by_cases h2:X=37
     ·have HF:=h_ (hy (by simp[h2]));clear hy hsn
      subst h2
      go_wp2_with (first
       |(go_at_call 187;refine(qy.out _).mono ?_;rintro e w4 ⟨rfl,hw4⟩;subst hw4)
       |(refine ej rfl (.tmp 2) (.tmp 45) rfl w w.heap.size _ H0 HI3.out (af _) rfl rfl rfl ?_;intro w5 i5;have Cn:=h_ i5;clear i5)
       |fail)
      exact Bl rfl rfl Cn.out (by rw[HF.out];rfl) (by rw[HF.out];rfl)
     have q2:(X==37)=false:=by simpa using h2
     by_cases h3:X=127
     ·have HF:=h_ (hy (by simp[h3]));clear hy hsn
      subst h3
      go_wp2_with (first
       |(go_at_call 187;refine(qy.out _).mono ?_;rintro e w4 ⟨rfl,hw4⟩;subst hw4)
       |(refine ej rfl (.tmp 2) (.tmp 45) rfl w w.heap.size _ H0 HI3.out (af _) rfl rfl rfl ?_;intro w5 i5;have Cn:=h_ i5;clear i5)
       |fail)
      exact Bl rfl rfl Cn.out (by rw[HF.out];rfl) (by rw[HF.out];rfl)
     have q3:(X==127)=false:=by simpa using h3
     have HS:=h_ (hsn (by simp[h1,h2,h3]));clear hy hsn
     go_wp2_with (first
      |(go_at_call 187;refine(qy.out _).mono ?_;rintro e w4 ⟨rfl,hw4⟩;subst hw4)
      |fail)
     go_roundw
     case rel=>exact⟨k+1,by omega,by simp,HS.out,by trivial⟩
     case measure=>simp[intOf];omega
   obtain rfl:k=N:=by omega
   have hr:=HR.out;rw[if_neg (by rw[UQ.out (fun j hj=>hall.out j hj (by have:=fL.out;omega))];simp)]at hr;clear HR;cases hef:rG n with
   |false =>
    rw[hef,if_neg (by simp)]at hr;rw[hef]at Am;have HR:=h_ hr;clear hr hef hall
    go_wp2_with (first
     |(go_at_call 202;refine(Am.out _ HI3.out.bL).mono ?_;rintro e w4 ⟨rfl,hb4⟩;have HI4:=h_ (HI3.out.below (af _) hb4);clear hb4)
     |(refine Az rfl 0 1 (.const (.int .i64 2)) (.tmp 50) rfl (.int .i64 2) (.string u) (.agg (cd G2)) rfl rfl HB2.out ?_)
     |(refine ej rfl (.tmp 2) (.tmp 51) rfl w w.heap.size _ G2 HI4.out (af _) a7A.out rfl rfl ?_;intro w5 i5;have Cn:=h_ i5;clear i5)
     |fail)
    exact Bl rfl rfl Cn.out (by rw[HR.out];rfl) (by rw[HR.out];rfl)
   |true =>
    rw[hef,if_pos rfl]at hr;rw[hef]at Am;cases hfq:mc n with
    |none =>
     rw[hfq]at hr XR;have HR:=h_ (show R=none from hr);clear hr hef hall hfq;replace XR:=h_ (show ∀W,Below w.heap.size w W->bN prog 203 #[.string u] W (.tuple #[.int .u32 0,.bool false])from XR.out)
     go_wp2_with (first
      |(go_at_call 202;refine(Am.out _ HI3.out.bL).mono ?_;rintro e w4 ⟨rfl,hb4⟩;have HI4:=h_ (HI3.out.below (af _) hb4);clear hb4)
      |(go_at_call 203;refine(XR.out _ HI4.out.bL).mono ?_;rintro e w5 ⟨rfl,hb5⟩;have Cn:=h_ (HI4.out.below (af _) hb5);clear hb5)
      |(refine ej rfl (.tmp 2) (.tmp 59) rfl w w.heap.size _ H0 Cn.out (af _) rfl rfl rfl ?_;intro w6 i6;have HI6:=h_ i6;clear i6)
      |fail)
     exact Bl rfl rfl HI6.out (by rw[HR.out];rfl) (by rw[HR.out];rfl)
    |some v =>
     rw[hfq]at hr XR;have hb3:=a3F v;obtain⟨G3,hG3⟩:∃ G:ie,G={H0 with kind:=3,four:=v}:=⟨_,rfl⟩;have a4f:G3.six.length=8:=by rw[hG3];rfl
     replace hr:R=some G3:=by rw[hr,hG3]
     rw[<-hG3]at hb3;clear hG3;have HB3:=h_ hb3;clear hb3;have a7B:=h_ a4f;clear a4f;have HR:=h_ hr;clear hr hef hall hfq;replace XR:=h_ (show ∀W,Below w.heap.size w W->bN prog 203 #[.string u] W (.tuple #[.int .u32 v,.bool true])from XR.out)
     go_wp2_with (first
      |(go_at_call 202;refine(Am.out _ HI3.out.bL).mono ?_;rintro e w4 ⟨rfl,hb4⟩;have HI4:=h_ (HI3.out.below (af _) hb4);clear hb4)
      |(go_at_call 203;refine(XR.out _ HI4.out.bL).mono ?_;rintro e w5 ⟨rfl,hb5⟩;have Cn:=h_ (HI4.out.below (af _) hb5);clear hb5)
      |(refine Az rfl 0 2 (.const (.int .i64 3)) (.tmp 60) rfl (.int .i64 3) (.int .u32 v) (.agg (cd G3)) rfl rfl HB3.out ?_)
      |(refine ej rfl (.tmp 2) (.tmp 61) rfl w w.heap.size _ G3 Cn.out (af _) a7B.out rfl rfl ?_;intro w6 i6;have HI6:=h_ i6;clear i6)
      |fail)
     exact Bl rfl rfl HI6.out (by rw[HR.out];rfl) (by rw[HR.out];rfl)

theorem SV{tmps:Array Value}{w w2:World}{b:Nat}{h:ie}{q:Bool}(h2:tmps.getD 4 undef=.pointer (some ⟨b,0,none⟩))(h3:tmps.getD 5 undef=.bool q)(i:Cw w b h w2){R:Option ie}(hR:h=R.getD H0)(hq:q=R.isSome) :
  bodyPost prog f160 (fun e w'=>e=zf R∧Below w.heap.size w w') Exit.ret {tmps:=tmps,defers:=[]} w2:=by
 have h2':tmps[4]?.getD undef=.pointer (some ⟨b,0,none⟩):=by simpa using h2
 have h3':tmps[5]?.getD undef=.bool q:=by simpa using h3
 have hl:=pK w2 b h i.a i.l;refine bodyPost_ret (v:=.tuple #[.agg (cd h),.bool q]) ?_ rfl ⟨by rw[hR,hq],i.bL⟩;simp[results,results160,asAddr,h2',h3',hl]
theorem Vu{s:Bytes}:((Um s).getD H0).six.length=8:=by
 unfold Um
 split
 ·cases h:mS (Lib.trimSuffix s [93])with
  |none=>rfl
  |some a=>exact(nK h).1
 rfl
theorem WF{s:Bytes}:((Ut s).getD H0).six.length=8:=by
 unfold Ut
 split
 ·rfl
 split
 ·rfl
 split
 ·rfl
 split
 ·split <;>rfl
 rfl
theorem a9G(l:Bytes):Lib.hasPrefix l [91]=decide (l.head? = some 91):=by
 cases l with
 |nil=>rfl
 |cons x r =>
  show((91==x)&&true)=_;rw[jq,cK];simp only[beq_iff_eq,k9,dA,decide_eq_true_eq];exact eq_comm
structure Short (l:Bytes):Prop where
 sl:l.length<=307200000
 st:(el (signs (mQ l))).length<=102400000
 sn:∀ n,kL (mQ l)=some n->n.length<=102400000
theorem ER{l:Bytes}(h:l.length<=1048576):Short l:=by
 have h1:=pN _ l (af _);have h2:=pl (signs (mQ l));have h3:=k6 _ (mQ l) (af _);exact⟨by omega,by omega,fun n hn=>by have:=vK hn;omega⟩
theorem wI(l:Bytes)(sp:Bool)(w:World)(hS:Short l)(hE:Env w):Calls prog 160 #[.string (bs l),.bool sp] w fun e w'=>e=zf (dh l sp)∧Below w.heap.size w w':=by
 obtain⟨hl,hst,hsn⟩:=hS;have Ba:=fun W=>oO l [91] W;rw[show bs [91]=⟨#[91]⟩from rfl,a9G]at Ba;have hbr:=fun W (h:Below w.heap.size w W)=>yy (l.drop 1) W (by rw[ah];omega) (hE.below h);have hnm:=fun W (h:Below w.heap.size w W)=>MY l W hl hst hsn (hE.below h);have hpe:=fun W=>fz 0 l W (by omega);obtain⟨R,hR⟩:=az (dh l sp);rw[<-hR];unfold dh at hR;have hyes:∀ k (hk:k<l.length),gg (b2 l[k])=true->(l.any fun x=>gg (b2 x))=true:=fun k hk h=>Jf (f:=fun x=>gg (b2 x)) hk h;have hno:(∀k (hk:k<l.length),gg (b2 l[k])=false)->(l.any fun x=>gg (b2 x))=false:=fun h=>Pa (f:=fun x=>gg (b2 x)) h;obtain⟨s,hs⟩:=az (bs l);have hsz:s.size=l.length:=by rw[hs,aM]
 have hby:∀ k (hk:k<s.size) (hk2:k<l.length),((s[k]'hk).toNat:Int)=b2 l[k]:=fun k hk hk2=>cJ hs hk hk2;have hue:(s.toList=[]) ↔ l=[]:=by rw[hs,ay]
 have hex:s.extract 1 s.size=bs (l.drop 1):=by rw[hs,bX,aM,aP (by rw[ah];omega)]
 rw[<-hs]at Ba hnm hpe ⊢;clear hs hst hsn hE;obtain⟨N,hN⟩:=az (s.size);have lk:s.size=N:=hN.symm;rw[lk]at hex;have p7:N<=307200000:=by omega
 have ou:N=l.length:=by omega
 clear hN hsz hl;have HI:=h_ (sQ w);by_cases h91:l.head? = some 91
 ·rw[if_pos h91]at hR
  rw[decide_eq_true h91]at Ba
  have hN1:1<=N:=by
   cases l with
   |nil=>cases h91
   |cons x r=>rw[ou];simp
  obtain⟨u,hu⟩:=az (bs (l.drop 1));rw[<-hu]at hex hbr;have UK:=h_ (Vu (s:=l.drop 1));obtain⟨B,hB⟩:=az (Um (l.drop 1));rw[<-hB]at hR hbr UK;clear hB hu h91 hnm hpe hyes hno hby hue ou;obtain⟨G,hG⟩:=az (B.getD H0);obtain⟨q,hq⟩:=az (B.isSome);have HBR:=h_ (show ∀W,Below w.heap.size w W->bN prog 185 #[.string u] W (.tuple #[.agg (cd G),.bool q])from by rw[hG,hq];exact hbr);rw[<-hG]at UK;have HR:=h_ (show G=R.getD H0∧q=R.isSome by rw[hR];exact⟨hG,hq⟩);have IO:=h_ Ba;clear Ba hbr hR hG hq;go_enter func160,ntmps160
  go_wp2_with (first
   |(refine aS rfl 27 rfl _ _ (ro _) ?_)
   |(go_at_call 57;refine(IO.out _).mono ?_;rintro e w2 ⟨rfl,hw2⟩;subst hw2)
   |(go_at_call 185;refine(HBR.out _ HI.out.bL).mono ?_;rintro e w2 ⟨rfl,hb2⟩;have HI2:=h_ (HI.out.below (af _) hb2);clear hb2)
   |(refine ej rfl (.tmp 4) (.tmp 12) rfl w w.heap.size _ G HI2.out (af _) UK.out rfl rfl ?_;intro w4 i4;have HI4:=h_ i4;clear i4)
   |fail)
  exact SV rfl rfl HI4.out HR.out.1 HR.out.2
 rw[if_neg h91]at hR;rw[decide_eq_false h91]at Ba;have IO:=h_ Ba;clear Ba hbr hex h91;cases sp with
 |true =>
  rw[if_pos rfl]at hR;have UK:=h_ (WF (s:=l));obtain⟨B,hB⟩:=az (Ut l);rw[<-hB]at hR hnm UK;clear hB hpe hyes hno hby hue ou;obtain⟨G,hG⟩:=az (B.getD H0);obtain⟨q,hq⟩:=az (B.isSome);have om:=h_ (show ∀W,Below w.heap.size w W->bN prog 186 #[.string s] W (.tuple #[.agg (cd G),.bool q])from by rw[hG,hq];exact hnm);rw[<-hG]at UK;have HR:=h_ (show G=R.getD H0∧q=R.isSome by rw[hR];exact⟨hG,hq⟩);clear hnm hR hG hq;go_enter func160,ntmps160
  go_wp2_with (first
   |(refine aS rfl 27 rfl _ _ (ro _) ?_)
   |(go_at_call 57;refine(IO.out _).mono ?_;rintro e w2 ⟨rfl,hw2⟩;subst hw2)
   |(go_at_call 186;refine(om.out _ HI.out.bL).mono ?_;rintro e w2 ⟨rfl,hb2⟩;have HI2:=h_ (HI.out.below (af _) hb2);clear hb2)
   |(refine ej rfl (.tmp 4) (.tmp 17) rfl w w.heap.size _ G HI2.out (af _) UK.out rfl rfl ?_;intro w4 i4;have HI4:=h_ i4;clear i4)
   |fail)
  exact SV rfl rfl HI4.out HR.out.1 HR.out.2
 |false =>
  rw[if_neg (by simp)]at hR;clear hnm;by_cases hnil:l=[]
  ·rw[if_pos hnil]at hR
   have he2:=hue.mpr hnil;have he:s.toList.isEmpty=true:=by rw[he2];rfl
   have HR:=h_ hR;clear hR hpe hyes hno hby hue hnil ou;go_enter func160,ntmps160
   go_wp2_with (first
    |(refine aS rfl 27 rfl _ _ (ro _) ?_)
    |(go_at_call 57;refine(IO.out _).mono ?_;rintro e w2 ⟨rfl,hw2⟩;subst hw2)
    |(refine ZV rfl 0 (.const (.int .i64 1)) rfl (.int .i64 1) (.agg (cd {H0 with kind:=1})) rfl a3D ?_)
    |(refine ej rfl (.tmp 4) (.tmp 21) rfl w w.heap.size _ {H0 with kind:=1} HI.out (af _) rfl rfl rfl ?_;intro w4 i4;have HI4:=h_ i4;clear i4)
    |fail)
   exact SV rfl rfl HI4.out (by rw[HR.out];rfl) (by rw[HR.out];rfl)
  rw[if_neg hnil]at hR;have he2:¬ s.toList=[]:=fun h=>hnil (hue.mp h);have he:s.toList.isEmpty=false:=by simpa using he2
  have hb5:=a3H (dq 0 l);obtain⟨G5,hG5⟩:∃ G:ie,G={H0 with kind:=5,name:=dq 0 l}:=⟨_,rfl⟩;have a4g:G5.six.length=8:=by rw[hG5];rfl
  rw[<-hG5]at hb5 hR;obtain⟨c,hc⟩:=az (bs (dq 0 l));have HPE:=h_ (show ∀W,bN prog 132 #[.string s,.int .i64 0] W (.string c)from by rw[hc];exact hpe);rw[<-hc]at hb5;clear hG5 hpe hc hue hnil;have fL:=h_ ou;clear ou;have kd:=h_ hby;clear hby;have Zt:=h_ hyes;clear hyes;have UQ:=h_ hno;clear hno;have HR:=h_ hR;clear hR;have gH:=h_ hb5;clear hb5;have a7D:=h_ a4g;clear a4g;go_enter func160,ntmps160
  go_wp2_with (first
   |(refine aS rfl 27 rfl _ _ (ro _) ?_)
   |(go_at_call 57;refine(IO.out _).mono ?_;rintro e w2 ⟨rfl,hw2⟩;subst hw2)
   |fail)
  go_loopw [24] (fun iv wr=>∃ k:Nat,k<=N∧iv=.int .i64 k∧Hid (∀j (hj:j<l.length),j<k->gg (b2 l[j])=false)∧wr=w.alloc (.cells (cd H0) 27)) (fun i _=>N-(intOf i).toNat)
  case atStart=>exact⟨0,aK _,by simp,fun j _ h=>absurd h (cg j),rfl⟩
  case round =>
   obtain⟨k,hk,rfl,hall,rfl⟩:=hrel;by_cases hlt:k<N
   ·have nS:k<s.size:=by rw[lk];exact hlt
    have hkl:k<l.length:=by have:=fL.out;omega
    have hx:=kd.out k nS hkl;have hy:gg (b2 l[k])=true->R=none:=fun h=>by rw[HR.out,if_pos (Zt.out k hkl h)]
    have hsn:gg (b2 l[k])=false->∀ j (hj:j<l.length),j<k+1->gg (b2 l[j])=false:=fun h j hj h1=>by
     rcases cZ j k with h2|h2
     ·exact hall.out j hj h2
     obtain rfl:j=k:=by omega
     exact h
    have hbd:=fun W=>Jp (b2 l[k]) W;generalize b2 l[k]=X at hx hy hsn hbd;have qy:=h_ hbd;clear hbd hall;cases hq:gg X with
    |true =>
     have HF:=h_ (hy hq);rw[hq]at qy;clear hy hsn hq
     go_wp2_with (first
      |(go_at_call 187;refine(qy.out _).mono ?_;rintro e w4 ⟨rfl,hw4⟩;subst hw4)
      |(refine ej rfl (.tmp 4) (.tmp 31) rfl w w.heap.size _ H0 HI.out (af _) rfl rfl rfl ?_;intro w5 i5;have Cn:=h_ i5;clear i5)
      |fail)
     exact SV rfl rfl Cn.out (by rw[HF.out];rfl) (by rw[HF.out];rfl)
    |false =>
     have HS:=h_ (hsn hq);rw[hq]at qy;clear hy hsn hq
     go_wp2_with (first
      |(go_at_call 187;refine(qy.out _).mono ?_;rintro e w4 ⟨rfl,hw4⟩;subst hw4)
      |fail)
     go_roundw
     case rel=>exact⟨k+1,by omega,by simp,HS.out,by first|rfl|trivial⟩
     case measure=>simp[intOf];omega
   obtain rfl:k=N:=by omega
   have hr:=HR.out;rw[if_neg (by rw[UQ.out (fun j hj=>hall.out j hj (by have:=fL.out;omega))];simp)]at hr;have HR:=h_ hr;clear hr hall
   go_wp2_with (first
    |(go_at_call 132;refine(HPE.out _).mono ?_;rintro e w4 ⟨rfl,hb4⟩;have HI4:=h_ (HI.out.below (af _) hb4);clear hb4)
    |(refine Az rfl 0 1 (.const (.int .i64 5)) (.tmp 34) rfl (.int .i64 5) (.string c) (.agg (cd G5)) rfl rfl gH.out ?_)
    |(refine ej rfl (.tmp 4) (.tmp 35) rfl w w.heap.size _ G5 HI4.out (af _) a7D.out rfl rfl ?_;intro w5 i5;have Cn:=h_ i5;clear i5)
    |fail)
   exact SV rfl rfl Cn.out (by rw[HR.out];rfl) (by rw[HR.out];rfl)

theorem yM:∀ n∈Z8,0<=n∧n<65536:=by decide
theorem oN{s:Bytes}{sp:Bool}{h:ie}(e:qh s sp h):yF h:=by
 cases e with
 |six a h8 ha hs=>exact⟨by simp,by simp[H0],h8,ha⟩
 |name n e hs hd hn hb he=>exact⟨by simp,by simp[H0],rfl,yM⟩
 |four n e hs h=>exact⟨by simp,⟨by simp,by simp only;omega⟩,rfl,yM⟩
 |empty e h=>exact⟨by simp,by simp[H0],rfl,yM⟩
 |Ej e hs h hb=>exact⟨by simp,by simp[H0],rfl,yM⟩
theorem XJ:yF H0:=⟨by simp[H0],by simp[H0],rfl,yM⟩
theorem Kt(s:Bytes):(dq 0 s).length<=3*s.length:=iw 0 s

structure mq where
 user:Bytes
 pass:Bytes
 host:ie
 bq:Bool
 port:Int
def A0:mq:=⟨[],[],H0,false,0⟩
def eK(s:Bytes):Bool:=s == [102,116,112]||s == [102,105,108,101]||s == [104,116,116,112]||s == [104,116,116,112,115]||s == [119,115]||s == [119,115,115]
def Bp(s:Bytes):Option Int :=
 if s=[102,116,112]then some 21 else if s=[104,116,116,112]∨s=[119,115]then some 80 else if s=[104,116,116,112,115]∨s=[119,115,115]then some 443 else none
def iJ:Int->Bytes->Option Int
 |n,[]=>some n
 |n,c::t=>if fI (b2 c) 10<0 then none else iJ (if(9223372036854775807-fI (b2 c) 10)/10<n then 9223372036854775807 else n*10+fI (b2 c) 10) t
def dk(s:Bytes):Option Int:=if s=[]then none else iJ 0 s
def Om(aH s:Bytes):Option (Int×Bool) :=
 if s=[]then some (0,false)else match dk s with
  |none=>none
  |some n=>if 65535<n then none else if Bp aH=some n then some (0,false)else some (n,true)
def Au:Bytes->Option (Bytes×Bytes)
 | []=>none
 |c::t=>match Au t with|some (a,b)=>some (c::a,b)|none=>if c=64 then some ([],t)else none
def mE:Bytes->Bytes×Bytes
 | []=>([],[])
 |c::t=>if c=58 then([],t)else(c::(mE t).1,(mE t).2)
def mC:Bool->Bytes->Option (Bytes×Bytes)
 |_,[]=>none
 |i,c::t=>if c=58∧i=false then some ([],t)else(mC (if c=91 then true else if c=93 then false else i) t).map fun p=>(c::p.1,p.2)
def yz(aH n q u p:Bytes):Option mq:=match dh n (eK aH)with
 |none=>none
 |some h=>match Om aH q with|none=>none|some (k,b)=>some ⟨u,p,h,b,k⟩
def qu(aH s u p:Bytes):Option mq:=match mC false s with
 |some (n,q)=>if n=[]then none else yz aH n q u p
 |none=>yz aH s [] u p
def kg(aH s:Bytes):Option mq:=match Au s with
 |none=>qu aH s [] []
 |some (who,rest)=>if rest=[]then none else qu aH rest (dq 5 (mE who).1) (dq 5 (mE who).2)
theorem uU:∀ {s:Bytes},(64:UInt8)∉s->Au s=none
 | [],_=>rfl
 |c::t,h=>by
  rw[Au,uU (s:=t) (fun h2=>h (by simp[h2]))];dsimp only;rw[if_neg (fun e=>h (by simp[e]))]
theorem CI(a:Bytes){b:Bytes}(h:(64:UInt8)∉b):Au (a++64::b)=some (a,b):=by
 induction a with
 |nil=>rw[bJ,Au,uU h];rfl
 |cons x r ih=>rw[bd,Au,ih]
theorem Yb:∀ {s a b:Bytes},Au s=some (a,b)->s=a++64::b∧(64:UInt8)∉b
 | [],_,_,h=>by cases h
 |c::t,a,b,h=>by
  rw[Au]at h;cases ht:Au t with
  |some p =>
   obtain⟨a',b'⟩:=p;rw[ht]at h;injection h with h
   injection h with h1 h2
   subst h1;subst h2;obtain⟨e,hn⟩:=Yb ht;exact⟨by rw[e];rfl,hn⟩
  |none =>
   rw[ht]at h;dsimp only at h
   split at h
   ·next hc =>
    injection h with h
    injection h with h1 h2
    subst h1;subst h2;subst hc;refine⟨rfl,fun hm=>?_⟩
    have key:∀ t:Bytes,(64:UInt8)∈t->Au t≠none:=by
     intro t
     induction t with
     |nil=>intro h;cases h
     |cons x r ih =>
      intro hx e;rw[Au]at e;cases hr:Au r with
      |some p=>rw[hr]at e;cases e
      |none =>
       rw[hr]at e;dsimp only at e;rcases aj.mp hx with hx|hx
       ·rw[if_pos hx.symm]at e;cases e
       exact ih hx hr
    exact key _ hm ht
   cases h
theorem De:∀ {s:Bytes},(58:UInt8)∉s->mE s=(s,[])
 | [],_=>rfl
 |c::t,h=>by rw[mE,if_neg (fun e=>h (by simp[e])),De (s:=t) (fun h2=>h (by simp[h2]))]
theorem LH(a b:Bytes)(h:(58:UInt8)∉a):mE (a++58::b)=(a,b):=by
 induction a with
 |nil=>rw[bJ,mE,if_pos rfl]
 |cons x r ih=>rw[bd,mE,if_neg (fun e=>h (by simp[e])),ih (fun h2=>h (by simp[h2]))]
theorem LF{a:Bytes}(h:∀ y∈a,y≠58∧y≠91∧y≠93)(i:Bool)(t:Bytes):mC i (a++t)=(mC i t).map fun p=>(a++p.1,p.2):=by
 induction a with
 |nil=>simp
 |cons x r ih =>
  obtain⟨h1,h2,h3⟩:=h x (by simp);rw[bd,mC,if_neg (fun e=>h1 e.1),if_neg h2,if_neg h3,ih (fun y hy=>h y (by simp[hy]))];rw[j6];rfl
theorem ZW{a:Bytes}(h:∀ y∈a,y≠91∧y≠93)(t:Bytes):mC true (a++t)=(mC true t).map fun p=>(a++p.1,p.2):=by
 induction a with
 |nil=>simp
 |cons x r ih =>
  obtain⟨h2,h3⟩:=h x (by simp);rw[bd,mC,if_neg (fun e=>by cases e.2),if_neg h2,if_neg h3,ih (fun y hy=>h y (by simp[hy]))];rw[j6];rfl
theorem VB{a:Bytes}(h:∀ y∈a,y≠91∧y≠93)(t:Bytes):mC false ([91]++a++[93]++t)=(mC false t).map fun p=>([91]++a++[93]++p.1,p.2):=by
 have e:[91]++a++[93]++t=91::(a++93::t):=by simp
 rw[e,mC,if_neg (fun e=>by revert e;decide),if_pos rfl,ZW h,mC,if_neg (fun e=>by cases e.2),if_neg (by decide),if_pos rfl];rw[j6,j6]
 congr 1
 funext p
 simp
theorem JN:∀ k:Fin 16,ky k.val≠91∧ky k.val≠93∧ky k.val≠64:=by decide +kernel
theorem a0s(u:Nat):∀ y∈ew u,y≠91∧y≠93∧y≠64:=by
 induction u using Nat.strongRecOn with
 |ind u ih =>
  intro y hy;by_cases h:u<16
  ·rw[im h]at hy
   obtain rfl:y=ky u:=by simpa using hy
   exact JN ⟨u,h⟩
  rw[lT h]at hy;rcases au.mp hy with hy|hy
  ·exact ih (u/16) (by omega) y hy
  obtain rfl:y=ky (u%16):=by simpa using hy
  exact JN ⟨u%16,by omega⟩
theorem Ij(a:List Int):∀ y∈kS a,y≠91∧y≠93∧y≠64:=by
 intro y hy;unfold kS gp at hy;obtain⟨t,_,hy⟩:=cT.mp hy;unfold jh at hy
 split at hy
 ·obtain rfl:y=58:=by simpa using hy
  decide
 split at hy
 ·obtain rfl:y=58:=by simpa using hy
  decide
 exact a0s _ y hy
theorem Lv:gg 58=true∧gg 91=true∧gg 93=true∧gg 64=true:=by decide
theorem YG{y:UInt8}(h:gg (b2 y)=false):y≠58∧y≠91∧y≠93∧y≠64:=by
 have e58:b2 58=58:=by decide
 have e91:b2 91=91:=by decide
 have e93:b2 93=93:=by decide
 have e64:b2 64=64:=by decide
 obtain⟨h1,h2,h3,h4⟩:=Lv;refine⟨?_,?_,?_,?_⟩
 all_goals
  rintro rfl;simp_all
theorem Rb{s:Bytes}{sp:Bool}{h:ie}(e:dh s sp=some h)(t:Bytes):mC false (dE h++t)=(mC false t).map fun p=>(dE h++p.1,p.2):=by
 by_cases hk:h.kind=4
 ·rw[rO h hk]
  exact VB (fun y hy=>⟨(Ij _ y hy).1,(Ij _ y hy).2.1⟩) t
 exact LF (fun y hy=>by
  have:=YG ((gC e).2.1 hk y hy).2.2;exact⟨this.1,this.2.1,this.2.2.1⟩) false t
theorem Wb{s:Bytes}{sp:Bool}{h:ie}(e:dh s sp=some h):(64:UInt8)∉dE h:=by
 intro hm;by_cases hk:h.kind=4
 ·rw[rO h hk]at hm
  simp only[au,bE]at hm;rcases hm with(hm|hm)|hm
  ·revert hm;decide
  ·exact(Ij _ _ hm).2.2 rfl
  revert hm;decide
 exact(YG ((gC e).2.1 hk _ hm).2.2).2.2.2 rfl

theorem Ym:∀ k:Fin 10,fI (b2 (UInt8.ofNat (48+k.val))) 10=k.val:=by decide +kernel
theorem Ff:∀ (l m:Bytes) (n:Int),iJ n (l++m)=(iJ n l).bind fun v=>iJ v m
 | [],m,n=>rfl
 |c::t,m,n=>by
  rw[bd,iJ,iJ]
  split
  ·rfl
  exact Ff t m _
theorem a1R(u:Nat)(h:u<=1024000000):iJ 0 (Lib.decDigits u)=some (u:Int):=by
 induction u using Nat.strongRecOn with
 |ind u ih =>
  by_cases h1:u<10
  ·rw[Lib.decDigits_one h1,iJ]
   have:=Ym ⟨u,h1⟩;simp only at this;rw[this,if_neg (by omega),if_neg (by omega),iJ]
   congr 1
   omega
  have e:Lib.decDigits u=Lib.decDigits (u/10)++[UInt8.ofNat (48+u%10)]:=by rw[Lib.decDigits,dif_neg h1]
  have:=Ym ⟨u%10,by omega⟩;simp only at this;rw[e,Ff,ih (u/10) (by omega) (by omega)];show iJ _ _=_;rw[iJ,this,if_neg (by omega),if_neg (by omega),iJ]
  congr 1
  omega
theorem P5(u:Nat):Lib.decDigits u ≠ []:=by
 intro h;have h1:=Lib.decDigits_length u;have h2:=Lib.nDigits_pos u;rw[h]at h1;simp at h1;omega
theorem KV:∀ (l:Bytes) (n v:Int),0<=n->iJ n l=some v->0<=v
 | [],n,v,h,e=>by rw[iJ]at e;injection e with e;omega
 |c::t,n,v,h,e=>by
  rw[iJ]at e
  split at e
  ·cases e
  next hd =>
  refine KV t _ v ?_ e
  split <;>omega
theorem a3x{aH q:Bytes}{k:Int}{b:Bool}(h:Om aH q=some (k,b)):(b=false∧k=0)∨(b=true∧0<=k∧k<=65535∧Bp aH≠some k∧q ≠ []):=by
 unfold Om at h
 split at h
 ·injection h with h;injection h with h1 h2;exact .inl ⟨h2.symm,h1.symm⟩
 next hq =>
 cases hw:dk q with
 |none=>rw[hw]at h;cases h
 |some n =>
  rw[hw]at h;dsimp only at h
  split at h
  ·cases h
  next hn =>
  split at h
  ·injection h with h;injection h with h1 h2;exact .inl ⟨h2.symm,h1.symm⟩
  next ho =>
  injection h with h;injection h with h1 h2
  subst h1;unfold dk at hw;rw[if_neg hq]at hw;have:=KV q 0 n (by omega) hw;exact .inr ⟨h2.symm,this,by omega,ho,hq⟩
theorem Vh{aH:Bytes}{k:Int}(h0:0<=k)(h1:k<=65535)(ho:Bp aH≠some k):Om aH (Lib.itoa k)=some (k,true):=by
 obtain⟨u,rfl⟩:∃ u:Nat,k=u:=⟨k.toNat,by omega⟩;unfold Om;rw[Lib.itoa_nonneg,if_neg (P5 u)];unfold dk;rw[if_neg (P5 u),a1R u (by omega)];dsimp only;rw[if_neg (by omega),if_neg ho]
theorem vD(u:Nat):∀ y∈Lib.decDigits u,48<=b2 y∧b2 y<=57:=by
 induction u using Nat.strongRecOn with
 |ind u ih =>
  have key:∀ k:Fin 10,48<=b2 (UInt8.ofNat (48+k.val))∧b2 (UInt8.ofNat (48+k.val))<=57:=by decide +kernel
  intro y hy;by_cases h1:u<10
  ·rw[Lib.decDigits_one h1]at hy
   rw[bE.mp hy];exact key ⟨u,h1⟩
  have e:Lib.decDigits u=Lib.decDigits (u/10)++[UInt8.ofNat (48+u%10)]:=by rw[Lib.decDigits,dif_neg h1]
  rw[e]at hy;rcases au.mp hy with hy|hy
  ·exact ih (u/10) (by omega) y hy
  rw[bE.mp hy];exact key ⟨u%10,by omega⟩
theorem Na:∀ k:Fin 256,(tW 5 (UInt8.ofNat k.val)).all (fun y=>!ip 5 (b2 y))=true:=by decide +kernel
theorem Bq{l:Bytes}:∀ y∈dq 5 l,ip 5 (b2 y)=false:=by
 intro y h;obtain⟨x,_,hy⟩:=cT.mp h;have hf:=Na ⟨x.toNat,x.toNat_lt⟩;simp only[cM]at hf;have:=bo.mp hf y hy
 simpa using this
theorem El(l:Bytes):dq 5 (dq 5 l)=dq 5 l:=rX Bq
theorem a1g{l:Bytes}:(58:UInt8)∉dq 5 l∧(64:UInt8)∉dq 5 l:=by
 refine⟨fun h=>?_,fun h=>?_⟩ <;>
 ·have:=Bq _ h
  revert this;decide
structure KY (aH:Bytes) (a:mq):Prop where
 h:∃ n,dh n (eK aH)=some a.host∧(n=[]->a.user=[]∧a.pass=[]∧a.bq=false)
 u:∃ x,a.user=dq 5 x
 p:∃ x,a.pass=dq 5 x
 q:(a.bq=false∧a.port=0)∨(a.bq=true∧0<=a.port∧a.port<=65535∧Bp aH≠some a.port)
theorem Qw{aH n q u p:Bytes}{a:mq}(h:yz aH n q u p=some a)(hu:∃ x,u=dq 5 x)(hp:∃ x,p=dq 5 x)(hn:n=[]->u=[]∧p=[]∧q=[]):KY aH a:=by
 unfold yz at h;cases hh:dh n (eK aH)with
 |none=>rw[hh]at h;cases h
 |some g =>
  rw[hh]at h;dsimp only at h;cases hq:Om aH q with
  |none=>rw[hq]at h;cases h
  |some v =>
   obtain⟨k,b⟩:=v;rw[hq]at h;injection h with h
   subst h;have hk:=a3x hq;refine⟨⟨n,hh,fun e=>?_⟩,hu,hp,?_⟩
   ·obtain⟨h1,h2,h3⟩:=hn e
    refine⟨h1,h2,?_⟩;rcases hk with hk|hk
    ·exact hk.1
    exact absurd h3 hk.2.2.2.2
   rcases hk with hk|hk
   ·exact .inl hk
   exact .inr ⟨hk.1,hk.2.1,hk.2.2.1,hk.2.2.2.1⟩
theorem KA{aH s u p:Bytes}{a:mq}(h:qu aH s u p=some a)(hu:∃ x,u=dq 5 x)(hp:∃ x,p=dq 5 x)(hs:s=[]->u=[]∧p=[]):KY aH a:=by
 unfold qu at h;cases hc:mC false s with
 |none =>
  rw[hc]at h;exact Qw h hu hp (fun e=>⟨(hs e).1,(hs e).2,rfl⟩)
 |some v =>
  obtain⟨n,q⟩:=v;rw[hc]at h;dsimp only at h
  split at h
  ·cases h
  next hn=>exact Qw h hu hp (fun e=>absurd e hn)
theorem Jk{aH s:Bytes}{a:mq}(h:kg aH s=some a):KY aH a:=by
 unfold kg at h;cases ha:Au s with
 |none =>
  rw[ha]at h;exact KA h ⟨[],rfl⟩ ⟨[],rfl⟩ (fun _=>⟨rfl,rfl⟩)
 |some v =>
  obtain⟨who,rest⟩:=v;rw[ha]at h;dsimp only at h
  split at h
  ·cases h
  next hr=>exact KA h ⟨_,rfl⟩ ⟨_,rfl⟩ (fun e=>absurd e hr)
def ye(a:mq):Bytes:=if a.user=[]∧a.pass=[]then []else a.user++(if a.pass=[]then []else 58::a.pass)++[64]
def iy(a:mq):Bytes:=if a.bq=true then 58::Lib.itoa a.port else []
def uI(a:mq):Bytes:=ye a++dE a.host++iy a
theorem WV{aH:Bytes}{a:mq}(q:(a.bq=false∧a.port=0)∨(a.bq=true∧0<=a.port∧a.port<=65535∧Bp aH≠some a.port)):(64:UInt8)∉iy a:=by
 unfold iy;rcases q with q|q
 ·rw[if_neg (by simp[q.1])];simp
 rw[if_pos q.1];obtain⟨u,hu⟩:∃ u:Nat,a.port=u:=⟨a.port.toNat,by omega⟩;rw[hu,Lib.itoa_nonneg];intro h;rcases aj.mp h with h|h
 ·revert h;decide
 have:=vD u _ h;have e:b2 64=64:=by decide
 omega
theorem Eb{s:Bytes}{sp:Bool}{h:ie}(e:dh s sp=some h)(hk:h.kind=1):s=[]:=by
 cases hkind e with
 |six a h8 ha hs=>exact absurd hk (by simp)
 |name n e hs hd hn hb he=>exact absurd hk (by simp)
 |four n e hs h=>exact absurd hk (by simp)
 |empty e h=>exact h
 |Ej e hs h hb=>exact absurd hk (by simp)
theorem Nj{aH:Bytes}{a:mq}(ok:KY aH a):qu aH (dE a.host++iy a) a.user a.pass=some a:=by
 obtain⟨⟨n,hh,hn⟩,_,_,q⟩:=ok;obtain⟨b1,_,b3⟩:=gC hh;unfold qu;rw[Rb hh];rcases q with⟨q1,q2⟩|⟨q1,q2,q3,q4⟩
 ·have ep:iy a=[]:=by unfold iy;rw[if_neg (by simp[q1])]
  rw[ep];rw[show mC false ([]:Bytes)=none from rfl,Option.map_none];dsimp only;rw[aG];unfold yz;rw[b1];dsimp only;rw[show Om aH []=some (0,false)from rfl];dsimp only;rw[<-q1,<-q2]
 have ep:iy a=58::Lib.itoa a.port:=by unfold iy;rw[if_pos q1]
 rw[ep];have ec:mC false (58::Lib.itoa a.port)=some ([],Lib.itoa a.port):=by rw[mC,if_pos ⟨rfl,rfl⟩]
 rw[ec,yw];dsimp only;rw[aG]
 have hne:dE a.host ≠ []:=by
  intro e;have hk:=b3.mp e;have hn0:=Eb hh hk;have:=(hn hn0).2.2;rw[q1]at this;cases this
 rw[if_neg hne];unfold yz;rw[b1];dsimp only;rw[Vh q2 q3 q4];dsimp only;rw[<-q1]
theorem Av{aH:Bytes}{a:mq}(ok:KY aH a):kg aH (uI a)=some a:=by
 have hr:=Nj ok;obtain⟨⟨n,hh,hn⟩,⟨x,hx⟩,⟨y,hy⟩,q⟩:=id ok
 have hno:(64:UInt8)∉dE a.host++iy a:=fun hm=>by
  rcases au.mp hm with hm|hm
  ·exact Wb hh hm
  exact WV q hm
 unfold kg;by_cases hw:a.user=[]∧a.pass=[]
 ·have e:uI a=dE a.host++iy a:=by unfold uI ye;rw[if_pos hw];simp
  rw[e,uU hno];rw[hw.1,hw.2]at hr;exact hr
 have e:uI a=(a.user++(if a.pass=[]then []else 58::a.pass))++64::(dE a.host++iy a):=by unfold uI ye;rw[if_neg hw];simp
 rw[e,CI _ hno];dsimp only
 have hne:dE a.host++iy a ≠ []:=by
  intro e;have e1:=(mm.mp e).1;have hk:=(gC hh).2.2.mp e1;have hn0:=Eb hh hk;exact hw ⟨(hn hn0).1,(hn hn0).2.1⟩
 rw[if_neg hne]
 have hcut:mE (a.user++(if a.pass=[]then []else 58::a.pass))=(a.user,a.pass):=by
  have zd:(58:UInt8)∉a.user:=by rw[hx];exact a1g.1
  by_cases hp:a.pass=[]
  ·rw[if_pos hp,aG,De zd,hp]
  rw[if_neg hp,LH _ _ zd]
 rw[hcut];dsimp only;have e1:dq 5 a.user=a.user:=by rw[hx,El]
 have e2:dq 5 a.pass=a.pass:=by rw[hy,El]
 rw[e1,e2];exact hr

theorem yC(s t:Bytes):((bs s).toList==(bs t).toList)=decide (s=t):=by rw[ay,ay,qK]
theorem gZ(s:Bytes)(w:World):bV prog 96 #[.string (bs s)] w (.bool (eK s)):=by
 have e1:=yC s [102,116,112];have e2:=yC s [102,105,108,101];have e3:=yC s [104,116,116,112];have e4:=yC s [104,116,116,112,115];have e5:=yC s [119,115];have e6:=yC s [119,115,115]
 have hR:eK s=(decide (s=[102,116,112])||decide (s=[102,105,108,101])||decide (s=[104,116,116,112])||decide (s=[104,116,116,112,115])||decide (s=[119,115])||decide (s=[119,115,115])):=by
  unfold eK;rw[qK,qK,qK,qK,qK,qK]
 rw[hR];generalize decide (s=[102,116,112])=b1 at e1 ⊢;generalize decide (s=[102,105,108,101])=b2 at e2 ⊢;generalize decide (s=[104,116,116,112])=b3 at e3 ⊢;generalize decide (s=[104,116,116,112,115])=b4 at e4 ⊢;generalize decide (s=[119,115])=b5 at e5 ⊢;generalize decide (s=[119,115,115])=b6 at e6 ⊢;clear hR;generalize bs s=S at *;rw[ay]at e1 e2 e3 e4 e5 e6;cases b1
 ·cases b2
  ·cases b3
   ·cases b4
    ·cases b5
     ·cases b6 <;>
      ·go_enter func96,ntmps96
       go_wp2_with fail
       go_ret;exact⟨rfl,rfl⟩
     go_enter func96,ntmps96
     go_wp2_with fail
     go_ret;exact⟨rfl,rfl⟩
    go_enter func96,ntmps96
    go_wp2_with fail
    go_ret;exact⟨rfl,rfl⟩
   go_enter func96,ntmps96
   go_wp2_with fail
   go_ret;exact⟨rfl,rfl⟩
  go_enter func96,ntmps96
  go_wp2_with fail
  go_ret;exact⟨rfl,rfl⟩
 go_enter func96,ntmps96
 go_wp2_with fail
 go_ret;exact⟨rfl,rfl⟩
theorem Nq(s:Bytes)(w:World):bV prog 191 #[.string (bs s)] w (.tuple #[.int .i64 ((Bp s).getD 0),.bool (Bp s).isSome]):=by
 have e1:=yC s [102,116,112];have e3:=yC s [104,116,116,112];have e4:=yC s [104,116,116,112,115];have e5:=yC s [119,115];have e6:=yC s [119,115,115];unfold Bp;by_cases b1:s=[102,116,112]
 ·rw[decide_eq_true b1]at e1
  rw[if_pos b1];clear b1;generalize bs s=S at *;rw[ay]at e1 e3 e4 e5 e6;go_enter func191,ntmps191
  go_wp2_with fail
  go_ret2
  exact⟨rfl,rfl⟩
 rw[decide_eq_false b1]at e1;rw[if_neg b1];clear b1;by_cases b3:s=[104,116,116,112]
 ·rw[decide_eq_true b3]at e3
  rw[if_pos (.inl b3)];clear b3;generalize bs s=S at *;rw[ay]at e1 e3 e4 e5 e6;go_enter func191,ntmps191
  go_wp2_with fail
  go_ret2
  exact⟨rfl,rfl⟩
 rw[decide_eq_false b3]at e3;by_cases b5:s=[119,115]
 ·rw[decide_eq_true b5]at e5
  rw[if_pos (.inr b5)];clear b5 b3;generalize bs s=S at *;rw[ay]at e1 e3 e4 e5 e6;go_enter func191,ntmps191
  go_wp2_with fail
  go_ret2
  exact⟨rfl,rfl⟩
 rw[decide_eq_false b5]at e5;rw[if_neg (fun h=>h.elim b3 b5)];clear b3 b5;by_cases b4:s=[104,116,116,112,115]
 ·rw[decide_eq_true b4]at e4
  rw[if_pos (.inl b4)];clear b4;generalize bs s=S at *;rw[ay]at e1 e3 e4 e5 e6;go_enter func191,ntmps191
  go_wp2_with fail
  go_ret2
  exact⟨rfl,rfl⟩
 rw[decide_eq_false b4]at e4;by_cases b6:s=[119,115,115]
 ·rw[decide_eq_true b6]at e6
  rw[if_pos (.inr b6)];clear b4 b6;generalize bs s=S at *;rw[ay]at e1 e3 e4 e5 e6;go_enter func191,ntmps191
  go_wp2_with fail
  go_ret2
  exact⟨rfl,rfl⟩
 rw[decide_eq_false b6]at e6;rw[if_neg (fun h=>h.elim b4 b6)];clear b4 b6;generalize bs s=S at *;rw[ay]at e1 e3 e4 e5 e6;go_enter func191,ntmps191
 go_wp2_with fail
 go_ret2
 exact⟨rfl,rfl⟩
theorem XF(n:Int){l:Bytes}{k:Nat}(h:k<l.length):iJ n (l.drop k)=if fI (b2 l[k]) 10<0 then none else iJ (if(9223372036854775807-fI (b2 l[k]) 10)/10<n then 9223372036854775807 else n*10+fI (b2 l[k]) 10) (l.drop (k+1)):=by
 rw[aq h];rfl
theorem Jy(c:Int):-1<=fI c 10∧fI c 10<10:=by
 unfold fI;simp only
 split <;>(try split) <;>(try split) <;>(try split) <;>omega
theorem k7(l:Bytes)(w:World)(hl:l.length<=1024000000) :
  bV prog 111 #[.string (bs l)] w (.tuple #[.int .i64 ((dk l).getD 0),.bool (dk l).isSome]):=by
 obtain⟨R,hR⟩:=az (iJ 0 l);unfold dk;rw[<-hR];have HR:=h_ hR;clear hR;obtain⟨s,hs⟩:=az (bs l);have hsz:s.size=l.length:=by rw[hs,aM]
 have hby:∀ k (hk:k<s.size) (hk2:k<l.length),((s[k]'hk).toNat:Int)=b2 l[k]:=fun k hk hk2=>cJ hs hk hk2;have hemp:(s.toList=[]) ↔ l=[]:=by rw[hs,ay]
 rw[<-hs];clear hs;obtain⟨N,hN⟩:=az (s.size);have lk:s.size=N:=hN.symm;have p7:N<=1024000000:=by omega
 have kd:=h_ hby;clear hby;have fL:=h_ hsz;clear hsz hl hN;by_cases hnil:l=[]
 ·rw[if_pos hnil]
  have he:=hemp.mpr hnil;have he1:s.toList.isEmpty=true:=by simpa using he
  clear hemp;go_enter func111,ntmps111
  go_wp2_with fail
  go_ret2
  exact⟨rfl,rfl⟩
 rw[if_neg hnil];have he:¬ s.toList=[]:=fun h=>hnil (hemp.mp h);have he1:s.toList.isEmpty=false:=by simpa using he
 clear hemp;have Zh:=h_ hnil;clear hnil;go_enter func111,ntmps111
 go_wp2_with fail
 go_loopw [4,11] (fun nv iv wr=>∃ (k:Nat) (n:Int),k<=N∧iv=.int .i64 k∧nv=.int .i64 n∧Hid (iJ n (l.drop k)=R)∧0<=n∧n<=9223372036854775807∧w=wr) (fun _ i _=>N-(intOf i).toNat)
 case atStart=>exact⟨0,0,by omega,by simp,by simp,HR.out.symm,by omega,by omega,rfl⟩
 case round =>
  obtain⟨k,n,hk,rfl,rfl,hd,hn0,hn1,rfl⟩:=hrel;by_cases hlt:k<N
  ·have nS:k<s.size:=by omega
   have hkl:k<l.length:=by have:=fL.out;omega
   have hx:=kd.out k nS hkl;have hst:=XF n hkl;rw[hd.out]at hst;have hr:=jr l[k];have hda:=fun W=>dB (b2 l[k]) 10 W hr (by omega);have hlo:=Jy (b2 l[k]);obtain⟨D,hD⟩:=az (fI (b2 l[k]) 10);rw[<-hD]at hst hda hlo;clear hD;generalize b2 l[k]=X at hx hr hda;have vl:=h_ hda;clear hda hd;by_cases hD0:D<0
   ·rw[if_pos hD0]at hst
    have HST:=h_ hst;clear hst
    go_wp2_with (first|(go_at_call 62;refine(vl.out _).mono ?_;rintro e w2 ⟨rfl,rfl⟩)|fail)
    go_ret2
    exact⟨by rw[HST.out];rfl,rfl⟩
   rw[if_neg hD0]at hst;have hw1:IntKind.i64.wrap (9223372036854775807-D)=9223372036854775807-D:=IntWalk.i64_in _ (by omega);obtain⟨M,hM⟩:=az (9223372036854775807-D);rw[<-hM]at hw1 hst;have hM0:0<=M:=by omega
   have hdv:Int.tdiv M 10=M/10:=a2d hM0;have hq1:0<=M/10∧M/10<=922337203685477580:=by omega
   have hw2:IntKind.i64.wrap (M/10)=M/10:=IntWalk.i64_in _ (by omega);by_cases hmn:M/10<n
   ·rw[if_pos hmn]at hst
    have HST:=h_ hst;clear hst
    go_wp2_with (first|(go_at_call 62;refine(vl.out _).mono ?_;rintro e w2 ⟨rfl,rfl⟩)|fail)
    go_roundw
    case rel=>exact⟨k+1,9223372036854775807,by omega,by simp,by simp,HST.out.symm,by omega,by omega,by trivial⟩
    case measure=>simp[intOf];omega
   rw[if_neg hmn]at hst;have HST:=h_ hst;clear hst;obtain⟨Z,hZ⟩:=az (n*10);have hw3:IntKind.i64.wrap (n*10)=n*10:=IntWalk.i64_in _ (by omega);have hw4:IntKind.i64.wrap (n*10+D)=n*10+D:=IntWalk.i64_in _ (by omega);clear hZ
   go_wp2_with (first|(go_at_call 62;refine(vl.out _).mono ?_;rintro e w2 ⟨rfl,rfl⟩)|fail)
   go_roundw
   case rel=>exact⟨k+1,n*10+D,by omega,by simp,by simp,HST.out.symm,by omega,by omega,by trivial⟩
   case measure=>simp[intOf];omega
  obtain rfl:k=N:=by omega
  have hdr:l.drop k=[]:=bB (by have:=fL.out;omega);have hd1:=hd.out;rw[hdr]at hd1;have HST:=h_ (show some n=R from hd1);clear hd1 hd
  go_wp2_with fail
  go_ret2
  exact⟨by rw[<-HST.out];rfl,rfl⟩
end Go.Proofs.YtmndlfglgcioeaaGreatDoor
