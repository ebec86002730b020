/- Joined texts. -/
import Derived.Recover
import Derived.Laws.Pointers
import Derived.Test.YtpbnfjdkdfombaaGreatDoorGSixA
set_option maxHeartbeats 40000000
abbrev Go.CallsD.m:=@Go.CallsD.mono
namespace Go.Proofs.YtpbnfjdkdfombaaGreatDoor
open Tryz
open Go.RowKit
set_option maxRecDepth 10000
structure Two (w:H) (b:Nat) (cs:List Int) (q:Bool) (wr:H):Prop where
 a:wr.heap[b]? = some (.cells (dz cs).toArray 30 (0,0))
 ok:wr.heap[b+1]? = some (.cells #[.bool q] 4 (0,0))
 len:cs.length=8
 bL:r7 w wr
theorem Two.lt{w:H}{b:Nat}{cs:List Int}{q:Bool}{wr:H}(h:Two w b cs q wr):b+1<wr.heap.size:=(bw.1 h.ok).1
theorem Two.below{w:H}{b:Nat}{cs:List Int}{q:Bool}{wr w2:H}(h:Two w b cs q wr)(U:w.heap.size<=b)(I:r7 wr w2):Two w b cs q w2:=by
 have:=h.lt;exact⟨(I.block b M0).trans h.a,(I.block (b+1) M0).trans h.ok,h.len,h.bL.trans (I.m M0)⟩
theorem Two.row{w:H}{b:Nat}{cs ds:List Int}{q:Bool}{wr:H}(h:Two w b cs q wr)(U:w.heap.size<=b)(hd:ds.length=8):Two w b ds q (wr.setRow b (dz ds).toArray) :=
 ⟨setRow_heap wr b _ _ _ _ h.a,(setRow_other wr b (b+1) _ M0).trans h.ok,hd,below_setRow h.bL U _⟩
theorem Two.set{w:H}{b:Nat}{cs:List Int}{q:Bool}{wr:H}(h:Two w b cs q wr)(U:w.heap.size<=b)(p:Bool):Two w b cs p (wr.setCell ⟨b+1,0,none⟩ (.bool p)):=by
 have e:=setCell_eq_setRow wr (b+1) 0 _ _ _ (.bool p) h.ok;rw[e];exact⟨(setRow_other wr (b+1) b _ M0).trans h.a,setRow_heap wr (b+1) _ _ _ _ h.ok,h.len,below_setRow h.bL M0 _⟩
theorem Two.cell{w:H}{b:Nat}{cs:List Int}{q:Bool}{wr:H}(h:Two w b cs q wr):wr.cell? ⟨b+1,0,none⟩=some (.bool q)/\wr.frozen? ⟨b+1,0,none⟩=false:=by
 constructor
 ·simp[World.cell?,h.ok]
 simp[World.frozen?,h.ok]
def Z8:List Int:=[0,0,0,0,0,0,0,0]
theorem qu(w:H):(Instr.alloc 30 true (Value.tuple #[])).run prog w=.ok (.pointer (some ⟨w.heap.size,0,none⟩)) (w.alloc (.cells (dz Z8).toArray 30)):=Rz
theorem oD:(prog.info? 30).map (·.size)=some 8:=Rz
theorem Gz(cs:List Int):(dz cs).toArray.all (·.oneCell')=true:=by
 rw[Array.all_eq_true];intro i hi;simp[Value.oneCell']
theorem MI(w:H):Two w w.heap.size Z8 false ((w.alloc (.cells (dz Z8).toArray 30)).alloc (.cells #[.bool false] 4)):=by
 refine⟨?_,?_,rfl,((Below.refl _ w).alloc (ag _) _).alloc Oc _⟩
 ·rw[Below.heap_alloc _ _ _ Oc,heap_alloc_new]
 have:=heap_alloc_new (w.alloc (.cells (dz Z8).toArray 30)) (.cells #[.bool false] 4)
 simpa using this
theorem Fe(w0:H)(b:Nat)(cs:List Int)(q:Bool)(u:TypeId)(A:Z)(older:List PanicEntry)(w:H)(h:Two w0 b cs q w)(U:w0.heap.size<=b) :
  CallsD prog 225 #[.pointer (some ⟨b,0,none⟩),.pointer (some ⟨b+1,0,none⟩)] (.panicking ({v:=.iface u A,recovered:=false}::older)) w λe u' w' =>
   e=.returned (.tuple #[])/\u'=.panicking ({v:=.iface u A,recovered:=true}::older)/\Two w0 b Z8 false w':=by
 refine callsD_of_wpS func225 rfl λc₀ cs hu=>?_
 apply wpS_seq
 apply wpS_region
 simp[wpOpsS,go_sem,recoverD,hu,ntmps225,Exit.thenS];refine wpS_cond (t:=true) (by simp[Act.eval,Array.replicate]) ?_;simp only[if_true];refine wpS_of_wp ?_;have HT:=F h;clear h
 go_wp2_with (first
  | (refine wpList_store_row rfl 30 (.tmp 0) (.tmp 4) rfl b (dz Z8).toArray rfl rfl _ _ HT.o.a (by rw[oD];rfl) (by simp[HT.o.len,Z8]) (Gz _) ?_
     have ht2:=HT.o.row (ds:=Z8) U rfl;revert ht2;generalize w.setRow b (dz Z8).toArray=w2;intro ht2;obtain⟨hc2,hz2⟩:=ht2.cell;have HT2:=F ht2;clear ht2))
 simp only[bodyPostS];exact⟨trivial,_,rfl,.tuple #[],by simp[results,results225],rfl,rfl,HT2.o.set U false⟩
theorem Fd(p r:Addr)(w:H) :
  CallsD prog 225 #[.pointer (some p),.pointer (some r)] .returning w λe u' w'=>e=.returned (.tuple #[])/\u'=.returning/\w'=w:=by
 refine callsD_of_wpS func225 rfl λc₀ cs hu=>?_
 apply wpS_seq
 apply wpS_region
 simp[wpOpsS,go_sem,recoverD,hu,ntmps225,Exit.thenS];refine wpS_cond (t:=false) (by simp[Act.eval,Array.replicate]) ?_;simp only[eH,if_false];refine wpS_of_wp (wp_skip ?_);cases c₀;simp_all[bodyPostS,results,results225]

abbrev a0R(o:Option (List Int)):Ending:=.returned (.tuple #[.agg (dz (o.getD Z8)).toArray,.bool o.isSome])
theorem zT{ops:Array Oper}{rest:List Oper}{o:Oper}{a:Act}{w:H}{Q:Exit->Act->H->Prop}(hgd:o.guard=none)(d s:Operand)(dT sT:TypeId)
  (ho:o.op=.call {callee:=.builtin .copy,args:=#[d,s],argTypes:=#[dT,sT]}) (elem:TypeId) (hu:prog.underlying dT=some (.slice elem)) (hsz:(prog.info? elem).map (·.size)=some 1)
  (w0:H) (g:Nat) (cs:List Int) (q:Bool) (hT:Two w0 g cs q w) (hg:w0.heap.size<=g) (off dLen dCap:Nat) (hd:a.eval d=.slice (some ⟨g,off,none⟩) dLen dCap)
  (sp:Option Addr) (sLen sCap:Nat) (hs:a.eval s=.slice sp sLen sCap) (l:List Int) (hl:l.length=sLen) (B:Nat) (hsrc:Sl B w (.slice sp sLen sCap) (dz l)) (hfit:off+sLen<=8) (hdl:sLen<=dLen)
  (h:∀ w',Two w0 g (splice cs off l) q w'->w.grownBy w' (some g)->wpList prog ops Q rest (a.put o.dst (goInt sLen)) w'):wpList prog ops Q (o::rest) a w:=by
 by_cases h0:l=[]
 ·subst h0
  obtain rfl:sLen=0:=hl.symm;refine wpList_copy_nothing hgd d s dT sT ho elem hu hsz _ _ _ _ _ _ hd hs (Nat.zero_min _) ?_;have e:splice cs off []=cs:=by simp[splice]
  exact h w (by rw[e];exact hT) ⟨rfl,rfl,rfl,ag _,λ_ _ _=>rfl⟩
 have hn0:sLen≠0:=λe=>h0 (az M0);obtain⟨c',_,_,X⟩:=hsrc;rcases X with⟨X,_⟩|⟨b',o',_,hv,hat⟩
 ·exact absurd (by simpa using X) h0
 injection hv with e1 e2 e3
 subst e1;have hcl:(dz cs).toArray.size=8:=by simp[hT.len]
 have hfin:=λh':_=>h (w.setRow g (dz (splice cs off l)).toArray) (hT.row hg (by rw[length_splice _ _ _ (by rw[hT.len];omega)];exact hT.len)) h';refine wpList_copy_own hgd d s dT sT ho elem hu hsz g off dLen dCap ⟨b',o',none⟩ sLen sCap hd hs (dz cs).toArray _ hT.a (dz l) (by rw[ay,hl];exact(xB hdl).symm) ?_ (by rw[ay,hcl];omega) ?_ ?_
 ·intro j v hj
  have hjl:j<(dz l).length:=(bh.mp hj).1;rw[addr_add,hat j hjl,<-List.getElem?_eq_getElem hjl,hj]
 ·intro v hv
  obtain⟨n,_,rfl⟩:=dt.mp hv;rfl
 have e:((dz cs).toArray.toList.take off++(dz l++(dz cs).toArray.toList.drop (off+(dz l).length))).toArray=(dz (splice cs off l)).toArray:=by
  simp[splice,List.map_take,List.map_drop]
 rw[e,show(dz l).length=sLen by rw[ay,hl]];exact hfin ⟨rfl,rfl,rfl,by simp[World.setRow],λk hk hne=>setRow_other w g k _ (λe=>hne (by rw[e]))⟩
theorem JE{tmps:Array Z}{w w2:H}{g:Nat}{cs:List Int}{q:Bool}(I:tmps.getD 2 undef=.pointer (some ⟨g,0,none⟩))(h3:tmps.getD 3 undef=.pointer (some ⟨g+1,0,none⟩))(h:Two w g cs q w2) :
  (results f220 tmps).run prog w2=.ok (.tuple #[.agg (dz cs).toArray,.bool q]) w2:=by
 have h2':tmps[2]?.getD undef=.pointer (some ⟨g,0,none⟩):=by simpa using I
 have h3':tmps[3]?.getD undef=.pointer (some ⟨g+1,0,none⟩):=by simpa using h3
 have hl:=run_loadVar_row (P:=prog) w2 g 30 30 (dz cs).toArray (0,0) _ h.a underlying30 rfl (by rw[oD];simp[h.len]);obtain⟨hc,hz⟩:=h.cell;have hlb:(loadVar 4 ⟨g+1,0,none⟩).run prog w2=.ok (.bool q) w2:=by simp[go_sem,hc]
 simp[results,results220,asAddr,h2',h3',hl,hlb]
theorem xd:(prog.info? 29).map (·.size)=some 1:=Rz
theorem p3{tmps:Array Z}{w w3:H}{g:Nat}{cs:List Int}{q:Bool}(I:tmps.getD 2 undef=.pointer (some ⟨g,0,none⟩))(h3:tmps.getD 3 undef=.pointer (some ⟨g+1,0,none⟩))(h:Two w g cs q w3)(hg:w.heap.size<=g){R:Option (List Int)}(hR:R=none) :
  bodyPostD prog f220 (λe w'=>e=a0R R/\r7 w w') (Exit.panic [{v:=.iface 234 (.agg #[]),recovered:=false}])
   {tmps:=tmps,defers:=[{target:=.fn (.func 225) #[.pointer (some ⟨g,0,none⟩),.pointer (some ⟨g+1,0,none⟩)],args:=#[]}]} w3:=by
 subst hR;refine leaves_cons (f:=225) (args:=#[.pointer (some ⟨g,0,none⟩),.pointer (some ⟨g+1,0,none⟩)]) Oc (by simp[go_sem]) ?_;refine(Fe w g cs q _ _ [] w3 h hg).m ?_;rintro e u' w4 ⟨rfl,rfl,h4⟩;exact⟨_,JE I h3 h4,rfl,h4.bL⟩
theorem oS{tmps:Array Z}{w w3:H}{g:Nat}{cs:List Int}{q:Bool}(I:tmps.getD 2 undef=.pointer (some ⟨g,0,none⟩))(h3:tmps.getD 3 undef=.pointer (some ⟨g+1,0,none⟩))(h:Two w g cs q w3){R:Option (List Int)}(hR:cs=R.getD Z8)(hq:q=R.isSome) :
  bodyPostD prog f220 (λe w'=>e=a0R R/\r7 w w') Exit.ret
   {tmps:=tmps,defers:=[{target:=.fn (.func 225) #[.pointer (some ⟨g,0,none⟩),.pointer (some ⟨g+1,0,none⟩)],args:=#[]}]} w3:=by
 refine leaves_cons (f:=225) (args:=#[.pointer (some ⟨g,0,none⟩),.pointer (some ⟨g+1,0,none⟩)]) Oc (by simp[go_sem]) ?_;refine(Fd _ _ w3).m ?_;rintro e u' w4 ⟨rfl,rfl,rfl⟩;exact⟨_,JE I h3 h,by rw[hR,hq],h.bL⟩
theorem a0T(b K N:Nat)(h:K+N=8):∃ o',o'+N<=8/\(N≠0->o'=K)/\∀ W,(Instr.sliceAt 30 (.pointer (some ⟨b,0,none⟩)) (some (.int .i64 (K:Int))) none none).run prog W=.ok (.slice (some ⟨b,o',none⟩) N N) W:=by
 have hk:((K:Int)).toNat=K:=rfl;have hrun:=λW=>run_sliceAt_array_l (P:=prog) W 30 ⟨b,0,none⟩ underlying30 .i64 (K:Int) M0 (by show(K:Int)<=8;omega)
 have hsz:∀ W,(sizeOf (prog.elem 30)).run prog W=.ok 1 W:=λW=>by
  obtain⟨i,hi,_,hs,_⟩:=info_parts D5;exact RQ hi hs W
 by_cases hN:N=0
 ·subst hN
  refine⟨0,M0,λh=>absurd rfl h,λW=>?_⟩;rw[hrun,hsz];have hK:K=8:=M0;subst hK;rfl
 refine⟨K,M0,λ_=>rfl,λW=>?_⟩;rw[hrun,hsz];show Result.ok (slicedAt ⟨b,0,none⟩ K 8 8 1) W=_;unfold slicedAt;rw[if_neg M0,show(⟨b,0,none⟩:Addr).add (K*1)=⟨b,K,none⟩ by rw[addr_add];simp,show 8-K=N by omega]
theorem GY{u v:List Int}{o' K:Nat}(hK:K+v.length=8)(hL:u.length+v.length<8)(ho:v.length≠0->o'=K)(ho2:o'+v.length<=8) :
  splice (splice Z8 0 u) o' v=u++List.replicate (8-u.length-v.length) 0++v:=by
 have e1:splice Z8 0 u=u++List.replicate (8-u.length) 0:=by
  unfold splice;have:Z8=List.replicate 8 0:=rfl;rw[this,jk,dg,List.drop_replicate,bM]
 rw[e1];unfold splice;by_cases hv:v=[]
 ·subst hv
  simp only[aO,dH,dg,cT,pA,aV]
 have hvl:v.length≠0:=λe=>hv (az e);rw[ho hvl,b4h,aP M0,List.take_replicate,dG (by simp;omega),aV]
 congr 2
 congr 1
 omega
theorem VO{w:H}{base e n:Nat}{v:Z}{xs:List Z}(h:w.ownsRow base e 1 v n xs){g:Nat}(hg:g<base):v.ownBlock=none\/v.ownBlock≠some g:=by
 rcases h.2 with⟨rfl,_⟩|⟨k,cap,cur,rfl,hk,_⟩
 ·exact .inl rfl
 right
 intro e;simp only[Value.ownBlock,ly]at e;omega
theorem AS(l:O)(w:H)(hl:l.length<=1024000000)(hE:Env w):Calls prog 220 #[.string (E l)] w λe w'=>e=a0R (pK l)/\r7 w w':=by
 have hmf:∀ (fn:Fn) (first cap:Array Z) (w:H),(Instr.makeFunc fn first cap).run prog w=.ok (.func fn first cap) w:=λ_ _ _ _=>rfl;have me:=λW (h:r7 w W)=>gK l [58,58] W hl (hE.below h);rw[show E [58,58]=⟨#[58,58]⟩from rfl,vQ]at me;have hr1:=λW (h:r7 w W)=>AP l true W hl (hE.below h);obtain⟨R,hR⟩:=V (pK l);rw[<-hR];unfold pK at hR
 have hlen:∀ a b,xE l=some (a,b)->a.length<=1024000000/\b.length<=1024000000:=by
  intro a b h;have Y:=BX l [58,58];rw[vQ,h]at Y;dsimp only at Y;omega
 have hra:=λa b (h:xE l=some (a,b)) W (hw:r7 w W)=>AP a false W (hlen a b h).1 (hE.below hw);have hrb:=λa b (h:xE l=some (a,b)) W (hw:r7 w W)=>AP b true W (hlen a b h).2 (hE.below hw);clear hlen hE hl;have tw:=MI w;obtain⟨s,hs⟩:=V (E l);rw[<-hs]at me hr1 ⊢;have HS:=F hs;clear hs;have HR:=F hR;clear hR;have Hz:=F tw;clear tw;cases hc:xE l with
 |none =>
  rw[hc]at me HR;have lB:=F me;clear me;clear hra hrb hc;cases hrr:rm true l with
  |none =>
   rw[hrr]at hr1 HR
   change ∀W,r7 w W->Calls _ _ _ W λe w'=>e=H9/\r7 W w' at hr1
   have HR1:=F hr1;clear hr1 hrr
   go_enter_defers func220,ntmps220
   go_wp2_with (first
    |(refine aM rfl 30 rfl _ _ (qu _) ?_)
    |(go_at_call 63;refine(lB.o _ Hz.o.bL).m ?_;rintro e w2 ⟨rfl,hb2⟩;have HT2:=F<|Hz.o.below (ag _) hb2;clear hb2)
    |(go_at_call 226;refine(HR1.o _ HT2.o.bL).m ?_;rintro e w3 ⟨rfl,hb3⟩;have HT3:=F<|HT2.o.below (ag _) hb3;clear hb3))
   exact p3 rfl rfl HT3.o (ag _) HR.o
  |some v =>
   rw[hrr]at hr1 HR
   change ∀W,r7 w W->Calls _ _ _ W λe w'=>(∃x,e=.returned x/\w'.ownsRow W.heap.size 29 1 x v.length (dz v))/\r7 W w' at hr1
   have HR1:=F hr1;clear hr1;have EE:=F<|jf hrr;clear hrr;obtain⟨N,hN⟩:=V (v.length);have hN8:N<=8:=by rw[hN];exact EE.o.2
   have hr:=HR.o;dsimp only at hr;rw[<-hN]at hr;have HR:=F hr;clear hr;have HN:=F hN;clear hN;by_cases h8:N=8
   ·rw[if_pos h8]at HR
    subst h8
    go_enter_defers func220,ntmps220
    go_wp2_with (first
     |(refine aM rfl 30 rfl _ _ (qu _) ?_)
     |(go_at_call 63;refine(lB.o _ Hz.o.bL).m ?_;rintro e w2 ⟨rfl,hb2⟩;have HT2:=F<|Hz.o.below (ag _) hb2;clear hb2)
     |(go_at_call 226;refine(HR1.o _ HT2.o.bL).m ?_;rintro e w3 ⟨⟨x,rfl,ho3⟩,hb3⟩;rw[<-HN.o]at ho3;obtain⟨av,cv,hv⟩:=ex ho3;subst hv;have jx:=F<|Sl.ew ho3;clear ho3;have HT3:=F<|HT2.o.below (ag _) hb3;clear hb3)
     |((refine zT rfl (.tmp 25) (.tmp 26) _ _ rfl 29 underlying223 xd w w.heap.size Z8 false HT3.o (ag _) 0 8 8 rfl av 8 cv rfl v HN.o.symm _ jx.o M0 M0 ?_);intro w4 Vk hg4;rw[show splice Z8 0 v=v by unfold splice;rw[<-HN.o];simp[Z8]]at Vk;have EI:=F Vk;clear Vk hg4)
     |(refine wpList_load_row rfl 30 (.tmp 2) rfl w.heap.size rfl _ _ _ _ EI.o.a underlying30 rfl (by rw[oD];simp[EI.o.len]) ?_)
     | (refine wpList_store_row rfl 30 (.tmp 2) (.tmp 28) rfl w.heap.size (dz v).toArray rfl rfl _ _ EI.o.a (by rw[oD];simp[EI.o.len]) Oc (Gz _) ?_
        have IS:=EI.o.row (ds:=v) (ag _) EI.o.len;revert IS;generalize World.setRow _ w.heap.size (dz v).toArray=w5;intro IS;obtain⟨hc5,hz5⟩:=IS.cell;have YH:=F IS;clear IS))
    exact oS rfl rfl (YH.o.set (ag _) true) (by rw[HR.o];rfl) (by rw[HR.o];rfl)
   rw[if_neg h8]at HR;have h8':((N:Int)==8)=false:=by simp;omega
   go_enter_defers func220,ntmps220
   go_wp2_with (first
    |(refine aM rfl 30 rfl _ _ (qu _) ?_)
    |(go_at_call 63;refine(lB.o _ Hz.o.bL).m ?_;rintro e w2 ⟨rfl,hb2⟩;have HT2:=F<|Hz.o.below (ag _) hb2;clear hb2)
    |(go_at_call 226;refine(HR1.o _ HT2.o.bL).m ?_;rintro e w3 ⟨⟨x,rfl,ho3⟩,hb3⟩;rw[<-HN.o]at ho3;obtain⟨av,cv,hv⟩:=ex ho3;subst hv;have jx:=F<|Sl.ew ho3;clear ho3;have HT3:=F<|HT2.o.below (ag _) hb3;clear hb3)
    | (refine wpList_store_row rfl 30 (.tmp 2) (.tmp 24) rfl _ (dz Z8).toArray rfl rfl _ _ HT3.o.a (by rw[oD];rfl) (by simp[Z8]) (Gz _) ?_
       have Vk:=HT3.o.row (ds:=Z8) (ag _) rfl;revert Vk;generalize World.setRow _ w.heap.size (dz Z8).toArray=w4;intro Vk;obtain⟨hc4,hz4⟩:=Vk.cell;have EI:=F Vk;clear Vk))
   exact oS rfl rfl (EI.o.set (ag _) false) (by rw[HR.o];rfl) (by rw[HR.o];rfl)
 |some ab =>
  obtain⟨a,b⟩:=ab;rw[hc]at me HR;have hr2:=hra a b hc;have hr3:=hrb a b hc;clear hra hrb hr1 hc;have lB:=F me;clear me;have hr0:R=(match rm false a,rm true b with|some l,some r=>if 8<=l.length+r.length then none else some (l++List.replicate (8-l.length-r.length) 0++r)|_,_=>none):=HR.o;have HR:=F hr0;clear hr0;cases hrr:rm false a with
  |none =>
   rw[hrr]at hr2 HR
   change ∀W,r7 w W->Calls _ _ _ W λe w'=>e=H9/\r7 W w' at hr2
   have HR2:=F hr2;clear hr2 hr3 hrr
   go_enter_defers func220,ntmps220
   go_wp2_with (first
    |(refine aM rfl 30 rfl _ _ (qu _) ?_)
    |(go_at_call 63;refine(lB.o _ Hz.o.bL).m ?_;rintro e w2 ⟨rfl,hb2⟩;have HT2:=F<|Hz.o.below (ag _) hb2;clear hb2)
    |(go_at_call 226;with_reducible refine(HR2.o _ HT2.o.bL).m ?_;rintro e w3 ⟨rfl,hb3⟩;have HT3:=F<|HT2.o.below (ag _) hb3;clear hb3))
   exact p3 rfl rfl HT3.o (ag _) HR.o
  |some u =>
   rw[hrr]at hr2 HR
   change ∀W,r7 w W->Calls _ _ _ W λe w'=>(∃x,e=.returned x/\w'.ownsRow W.heap.size 29 1 x u.length (dz u))/\r7 W w' at hr2
   have HR2:=F hr2;clear hr2;obtain⟨L,hL⟩:=V (u.length);have hL8:L<=8:=by rw[hL];exact(jf hrr).2
   have HL:=F hL;clear hL hrr;cases hrr:rm true b with
   |none =>
    rw[hrr]at hr3 HR
    change ∀W,r7 w W->Calls _ _ _ W λe w'=>e=H9/\r7 W w' at hr3
    have HR3:=F hr3;clear hr3 hrr
    go_enter_defers func220,ntmps220
    go_wp2_with (first
    |(refine aM rfl 30 rfl _ _ (qu _) ?_)
    |(go_at_call 63;refine(lB.o _ Hz.o.bL).m ?_;rintro e w2 ⟨rfl,hb2⟩;have HT2:=F<|Hz.o.below (ag _) hb2;clear hb2)
    |(go_at_call 226;with_reducible refine(HR2.o _ HT2.o.bL).m ?_;rintro e w3 ⟨⟨x,rfl,ho3⟩,hb3⟩;clear ho3;have HT3:=F<|HT2.o.below (ag _) hb3;clear hb3)
    |(go_at_call 226;with_reducible refine(HR3.o _ HT3.o.bL).m ?_;rintro e w4 ⟨rfl,hb4⟩;have EI:=F<|HT3.o.below (ag _) hb4;clear hb4))
    exact p3 rfl rfl EI.o (ag _) (by rw[HR.o])
   |some v =>
    rw[hrr]at hr3 HR
    change ∀W,r7 w W->Calls _ _ _ W λe w'=>(∃x,e=.returned x/\w'.ownsRow W.heap.size 29 1 x v.length (dz v))/\r7 W w' at hr3
    have HR3:=F hr3;clear hr3;obtain⟨N,hN⟩:=V (v.length);have hN8:N<=8:=by rw[hN];exact(jf hrr).2
    have HN:=F hN;clear hN hrr;have hr:=HR.o;dsimp only at hr;rw[<-HL.o,<-HN.o]at hr;have HR:=F hr;clear hr;have hws:IntKind.i64.wrap ((L:Int)+(N:Int))=(L:Int)+(N:Int):=IntWalk.i64_in _ M0;by_cases h8:8<=L+N
    ·rw[if_pos h8]at HR
     have h8':(8:Int)<=(L:Int)+(N:Int):=M0
     go_enter_defers func220,ntmps220
     go_wp2_with (first
    |(refine aM rfl 30 rfl _ _ (qu _) ?_)
    |(go_at_call 63;refine(lB.o _ Hz.o.bL).m ?_;rintro e w2 ⟨rfl,hb2⟩;have HT2:=F<|Hz.o.below (ag _) hb2;clear hb2)
    |(go_at_call 226;with_reducible refine(HR2.o _ HT2.o.bL).m ?_;rintro e w3 ⟨⟨x,rfl,ho3⟩,hb3⟩;rw[<-HL.o]at ho3;obtain⟨av,cv,hv⟩:=ex ho3;subst hv;clear ho3;have HT3:=F<|HT2.o.below (ag _) hb3;clear hb3)
    |(go_at_call 226;with_reducible refine(HR3.o _ HT3.o.bL).m ?_;rintro e w4 ⟨⟨y,rfl,qV⟩,hb4⟩;rw[<-HN.o]at qV;obtain⟨aw,cw,hw⟩:=ex qV;subst hw;clear qV;have EI:=F<|HT3.o.below (ag _) hb4;clear hb4)
    | (refine wpList_store_row rfl 30 (.tmp 2) (.tmp 39) rfl _ (dz Z8).toArray rfl rfl _ _ EI.o.a (by rw[oD];rfl) (by simp[Z8]) (Gz _) ?_
       have IS:=EI.o.row (ds:=Z8) (ag _) rfl;revert IS;generalize World.setRow _ w.heap.size (dz Z8).toArray=w5;intro IS;obtain⟨hc5,hz5⟩:=IS.cell;have YH:=F IS;clear IS))
     exact oS rfl rfl (YH.o.set (ag _) false) (by rw[HR.o];rfl) (by rw[HR.o];rfl)
    ·rw[if_neg h8]at HR
     have h8':¬ (8:Int)<=(L:Int)+(N:Int):=M0;obtain⟨K,hK⟩:=V (8-N);have hwk:IntKind.i64.wrap (8-(N:Int))=(K:Int):=by rw[IntWalk.i64_in _ M0];omega
     have hK8:K<=8:=M0;have hKN:K+N=8:=M0;obtain⟨o',ho1,ho2,hsl⟩:=a0T w.heap.size K N hKN
     have a4E:splice (splice Z8 0 u) o' v=u++List.replicate (8-L-N) 0++v:=by
      have e1:=HL.o;have e2:=HN.o;rw[e1,e2];exact GY (K:=K) M0 M0 (by rw[<-e2];exact ho2) M0
     have a74:=F a4E;clear a4E;have HK:=F hKN;clear hK hKN;have eJ:=F ho2;clear ho2
     go_enter_defers func220,ntmps220
     go_wp2_with (first
    |(refine aM rfl 30 rfl _ _ (qu _) ?_)
    |(go_at_call 63;refine(lB.o _ Hz.o.bL).m ?_;rintro e w2 ⟨rfl,hb2⟩;have HT2:=F<|Hz.o.below (ag _) hb2;clear hb2)
    |(go_at_call 226;with_reducible refine(HR2.o _ HT2.o.bL).m ?_;rintro e w3 ⟨⟨x,rfl,ho3⟩,hb3⟩;rw[<-HL.o]at ho3;obtain⟨av,cv,hv⟩:=ex ho3;subst hv;have jx:=F ho3;clear ho3;have hz3:=HT2.o.lt;have HT3:=F<|HT2.o.below (ag _) hb3;clear hb3)
    |(go_at_call 226;with_reducible refine(HR3.o _ HT3.o.bL).m ?_;rintro e w4 ⟨⟨y,rfl,qV⟩,hb4⟩;rw[<-HN.o]at qV;obtain⟨aw,cw,hw⟩:=ex qV;subst hw;have qp:=F qV;clear qV;have a7R:=F<|own_below jx.o hb4;have hz4:=HT3.o.lt;have EI:=F<|HT3.o.below (ag _) hb4;clear hb4)
    |((refine zT rfl (.tmp 40) (.tmp 41) _ _ rfl 29 underlying223 xd w w.heap.size Z8 false EI.o (ag _) 0 8 8 rfl av L cv rfl u HL.o.symm _ (Sl.ew a7R.o) M0 M0 ?_);intro w5 IS hg5;have YH:=F IS;have xn:=F<|qp.o.kept hg5 (VO qp.o M0);clear IS hg5)
    |((refine zT rfl (.tmp 46) (.tmp 47) _ _ rfl 29 underlying223 xd w w.heap.size _ false YH.o (ag _) o' N N rfl aw N cw rfl v HN.o.symm _ (Sl.ew xn.o) ho1 (ag _) ?_);intro w6 ht6 hg6;rw[a74.o]at ht6;have HT6:=F ht6;clear ht6 hg6)
    |(refine wpList_load_row rfl 30 (.tmp 2) rfl w.heap.size rfl _ _ _ _ HT6.o.a underlying30 rfl (by rw[oD];simp only[fZ,ay,HT6.o.len]) ?_)
    | (refine wpList_store_row rfl 30 (.tmp 2) (.tmp 49) rfl w.heap.size (dz (u++List.replicate (8-L-N) 0++v)).toArray rfl rfl _ _ HT6.o.a (by rw[oD];simp only[fZ,ay,HT6.o.len]) rfl (Gz _) ?_
       have ht7:=HT6.o.row (ds:=(u++List.replicate (8-L-N) 0++v)) (ag _) HT6.o.len;revert ht7;generalize World.setRow _ w.heap.size (dz (u++List.replicate (8-L-N) 0++v)).toArray=w7;intro ht7;obtain⟨hc7,hz7⟩:=ht7.cell;have HT7:=F ht7;clear ht7))
     exact oS rfl rfl (HT7.o.set (ag _) true) (by rw[HR.o];rfl) (by rw[HR.o];rfl)

def Jr(c:Int):Bool:=np c||decide (c<32\/c=37\/c=127)
def H0:gF:={kind:=0,name:=[],four:=0,six:=Z8}
def Xu(s:O):Option gF:=if Lib.hasSuffix s [93]=true then(match pK (Lib.trimSuffix s [93])with|none=>none|some a=>some {H0 with kind:=4,six:=a})else none
def XX(s:O):Option gF :=
 match nw (nJ s)with
 |none=>none
 |some n=>if n=[]then none else if n.any (λx=>Jr (G x))=true then none else if yo n=true then(match nZ n with|none=>none|some v=>some {H0 with kind:=3,four:=v})else some {H0 with kind:=2,name:=n}
def fm(s:O)(special:Bool):Option gF :=
 if s.head? = some 91 then Xu (s.drop 1)
 else if special=true then XX s
 else if s=[]then some {H0 with kind:=1}
 else if s.any (λx=>np (G x))=true then none
 else some {H0 with kind:=5,name:=dD 0 s}
theorem NJ{f:UInt8->Bool}{l:O}(h:∀ k (hk:k<l.length),f l[k]=false):l.any f=false:=by
 rw[M6];intro x X;obtain⟨k,hk,rfl⟩:=cC X;simp[h k hk]
theorem Ib{f:UInt8->Bool}{l:O}{k:Nat}(hk:k<l.length)(h:f l[k]=true):l.any f=true:=m8.mpr ⟨l[k],be hk,h⟩

theorem Az{set:Int}{l:O}(h:∀ y∈l,k6 set (G y)=false):dD set l=l:=by
 induction l with
 |nil=>rfl
 |cons x r ih =>
  have e:dD set (x::r)=xq set x++dD set r:=by unfold dD;simp
  rw[e,ih (λy hy=>h y (by simp[hy]))];unfold xq;rw[if_neg (by rw[h x Oc];simp)];rfl
inductive sS (s:O) (sp:Bool):gF->Prop where
 |six (a:List Int) (h8:a.length=8) (ha:∀ n∈a,0<=n/\n<65536) (hs:s.head? = some 91):sS s sp {H0 with kind:=4,six:=a}
 |name (n:O) (e:sp=true) (hs:s.head? ≠ some 91) (hd:nw (nJ s)=some n) (hn:n ≠ []) (U:∀ y∈n,Jr (G y)=false) (he:yo n=false):sS s sp {H0 with kind:=2,name:=n}
 |four (n:Nat) (e:sp=true) (hs:s.head? ≠ some 91) (h:n<4294967296):sS s sp {H0 with kind:=3,four:=n}
 |empty (e:sp=false) (h:s=[]):sS s sp {H0 with kind:=1}
 |a0z (e:sp=false) (hs:s.head? ≠ some 91) (h:s ≠ []) (U:∀ y∈s,np (G y)=false):sS s sp {H0 with kind:=5,name:=dD 0 s}
theorem NK{α:Type}{f:α->Bool}{l:List α}(h:¬ l.any f=true):∀ y∈l,f y=false:=by
 have I:l.any f=false:=by simpa using h
 intro y hy;have:=M6.mp I y hy
 simpa using this
theorem hkind{s:O}{sp:Bool}{h:gF}(e:fm s sp=some h):sS s sp h:=by
 unfold fm at e;by_cases Y:s.head? = some 91
 ·rw[if_pos Y]at e
  unfold Xu at e
  split at e
  ·cases hs:pK (Lib.trimSuffix (s.drop 1) [93])with
   |none=>rw[hs]at e;cases e
   |some a =>
    rw[hs]at e;injection e with e
    subst e;exact .six a (mT hs).1 (mT hs).2 Y
  cases e
 rw[if_neg Y]at e;cases sp with
 |true =>
  rw[if_pos rfl]at e;unfold XX at e;cases hd:nw (nJ s)with
  |none=>rw[hd]at e;cases e
  |some n =>
   rw[hd]at e;dsimp only at e
   split at e
   ·cases e
   next hn =>
   split at e
   ·cases e
   next U =>
   split at e
   ·next he =>
    cases hf:nZ n with
    |none=>rw[hf]at e;cases e
    |some v =>
     rw[hf]at e;injection e with e
     subst e;have hv:=Aa hf;obtain⟨m,hm⟩:∃ m:Nat,v=m:=⟨v.toNat,M0⟩;subst hm;exact .four m rfl Y M0
   next he =>
   injection e with e
   subst e;exact .name n rfl Y hd hn (NK U) (by simpa using he)
 |false =>
  rw[if_neg Oc]at e
  split at e
  ·next hn =>
   injection e with e
   subst e;exact .empty rfl hn
  next hn =>
  split at e
  ·cases e
  next U =>
  injection e with e
  subst e;exact .a0z rfl Y hn (NK U)

abbrev aT(h:gF):Array Z:=(aS h).toArray
theorem qw(w:H):(Instr.alloc 32 true (Value.tuple #[])).run prog w=.ok (.pointer (some ⟨w.heap.size,0,none⟩)) (w.alloc (.cells (aT H0) 32)):=Rz
theorem a3g:∀ w,(Instr.build 32 #[(0,.int .i64 1)]).run prog w=.ok (.agg (aT {H0 with kind:=1})) w:=λw=>Rz
theorem a3h(n:O):∀ w,(Instr.build 32 #[(0,.int .i64 2),(1,.string (E n))]).run prog w=.ok (.agg (aT {H0 with kind:=2,name:=n})) w:=λw=>Rz
theorem a3k(n:O):∀ w,(Instr.build 32 #[(0,.int .i64 5),(1,.string (E n))]).run prog w=.ok (.agg (aT {H0 with kind:=5,name:=n})) w:=λw=>Rz
theorem a3i(v:Int):∀ w,(Instr.build 32 #[(0,.int .i64 3),(2,.int .u32 v)]).run prog w=.ok (.agg (aT {H0 with kind:=3,four:=v})) w:=λw=>Rz
theorem a3j(a:List Int)(h:a.length=8):∀ w,(Instr.build 32 #[(0,.int .i64 4),(3,.agg (dz a).toArray)]).run prog w=.ok (.agg (aT {H0 with kind:=4,six:=a})) w:=λw=>by
 obtain⟨a,b,c,d,e,f,g,i,rfl⟩:=eight h
 kernel_rfl
theorem hsize(h:gF)(hl:h.six.length=8):(prog.info? 32).map (·.size)=some (aT h).size:=by
 rw[jb];simp[aS,hl]
theorem XL(h:gF):(aT h).all (·.oneCell')=true:=by
 rw[Array.all_eq_true];intro i hi;have hm:(aT h)[i]∈aS h:=Oc;simp only[aS,aK,dt]at hm;rcases hm with e|e|e|⟨_,_,e⟩ <;>first|(rw[e];rfl)|(rw[<-e];rfl)
structure Bz (w:H) (b:Nat) (h:gF) (wr:H):Prop where
 a:wr.heap[b]? = some (.cells (aT h) 32 (0,0))
 l:h.six.length=8
 bL:r7 w wr
theorem Bz.lt{w:H}{b:Nat}{h:gF}{wr:H}(i:Bz w b h wr):b<wr.heap.size:=(bw.1 i.a).1
theorem Bz.below{w:H}{b:Nat}{h:gF}{wr w2:H}(i:Bz w b h wr)(U:w.heap.size<=b)(I:r7 wr w2):Bz w b h w2:=by
 have:=i.lt;exact⟨(I.block b M0).trans i.a,i.l,i.bL.trans (I.m M0)⟩
theorem Bz.alloc{w:H}{b:Nat}{h:gF}{wr:H}(i:Bz w b h wr)(o:Obj)(U:w.heap.size<=b):Bz w b h (wr.alloc o):=i.below U ((Below.refl _ wr).alloc (ag _) o)
theorem Bz.put{w:H}{b:Nat}{h g:gF}{wr:H}(i:Bz w b h wr)(U:w.heap.size<=b)(hl:g.six.length=8):Bz w b g (wr.setRow b (aT g)) :=
 ⟨setRow_heap wr b _ _ _ _ i.a,hl,below_setRow i.bL U _⟩
theorem sq(w:H):Bz w w.heap.size H0 (w.alloc (.cells (aT H0) 32)):=⟨heap_alloc_new w _,rfl,(Below.refl _ w).alloc (ag _) _⟩
abbrev yC(o:Option gF):Ending:=.returned (.tuple #[.agg (aT (o.getD H0)),.bool o.isSome])
theorem oT(w:H)(b:Nat)(h:gF)(i:w.heap[b]? = some (.cells (aT h) 32 (0,0)))(hl:h.six.length=8):(loadVar 32 ⟨b,0,none⟩).run prog w=.ok (.agg (aT h)) w :=
 run_loadVar_row (P:=prog) w b 32 32 (aT h) (0,0) _ i underlying32 rfl (hsize h hl)
theorem ea{ops:Array Oper}{rest:List Oper}{o:Oper}{a:Act}{w:H}{Q:Exit->Act->H->Prop}(hgd:o.guard=none)(x y:Operand)(ho:o.op=.store 32 x y)
  (w0:H) (b:Nat) (h g:gF) (i:Bz w0 b h w) (U:w0.heap.size<=b) (hl:g.six.length=8) (X:a.eval x=.pointer (some ⟨b,0,none⟩)) (hy:a.eval y=.agg (aT g))
  (k:∀ w',Bz w0 b g w'->wpList prog ops Q rest (a.put o.dst undef) w'):wpList prog ops Q (o::rest) a w:=by
 refine wpList_store_row hgd _ x y ho b (aT g) X hy _ _ i.a (hsize g hl) ?_ (XL g) (k _ (i.put U hl));simp[aS,i.l,hl]
theorem zR{ops:Array Oper}{rest:List Oper}{o:Oper}{a:Act}{w:H}{Q:Exit->Act->H->Prop}(hgd:o.guard=none)(i j:Nat)(x y:Operand)(ho:o.op=.build 32 #[(i,x),(j,y)])
  (X' Y' v:Z) (X:a.eval x=X') (hy:a.eval y=Y') (hr:∀ w,(Instr.build 32 #[(i,X'),(j,Y')]).run prog w=.ok v w) (k:wpList prog ops Q rest (a.put o.dst v) w):wpList prog ops Q (o::rest) a w:=by
 refine bR hgd _ _ ho v #[(i,X'),(j,Y')] ?_ hr k;subst X;subst hy;simp
theorem Zg{ops:Array Oper}{rest:List Oper}{o:Oper}{a:Act}{w:H}{Q:Exit->Act->H->Prop}(hgd:o.guard=none)(i:Nat)(x:Operand)(ho:o.op=.build 32 #[(i,x)])
  (X' v:Z) (X:a.eval x=X') (hr:∀ w,(Instr.build 32 #[(i,X')]).run prog w=.ok v w) (k:wpList prog ops Q rest (a.put o.dst v) w):wpList prog ops Q (o::rest) a w:=by
 refine bR hgd _ _ ho v #[(i,X')] ?_ hr k;subst X;simp
theorem zU(l m:O)(w:H)(hl:l.length<=1024000000):bP prog 104 #[.string (E l),.string (E m)] w (.tuple #[S (Lib.trimSuffix l m),.bool (Lib.hasSuffix l m)]):=by
 have h:=Any.strings_CutSuffix laysCutS (E l) (E m) w (by rw[aF];omega);rw[show(E l).data.toList=l from cW l,show(E m).data.toList=m from cW m]at h;exact h
theorem DZ(l m:O):(Lib.trimSuffix l m).length<=l.length:=by
 unfold Lib.trimSuffix
 split
 ·rw[aD];omega
 exact ag _
theorem Ze{tmps:Array Z}{w w2:H}{b:Nat}{h:gF}{q:Bool}(I:tmps.getD 2 undef=.pointer (some ⟨b,0,none⟩))(h3:tmps.getD 3 undef=.bool q)(i:Bz w b h w2){R:Option gF}(hR:h=R.getD H0)(hq:q=R.isSome) :
  bodyPost prog f209 (λe w'=>e=yC R/\r7 w w') Exit.ret {tmps:=tmps,defers:=[]} w2:=by
 have h2':tmps[2]?.getD undef=.pointer (some ⟨b,0,none⟩):=by simpa using I
 have h3':tmps[3]?.getD undef=.bool q:=by simpa using h3
 have hl:=oT w2 b h i.a i.l;refine bodyPost_ret (v:=.tuple #[.agg (aT h),.bool q]) ?_ rfl ⟨by rw[hR,hq],i.bL⟩;simp[results,results209,asAddr,h2',h3',hl]
theorem xD(l:O)(w:H)(hl:l.length<=1024000000)(hE:Env w):Calls prog 209 #[.string (E l)] w λe w'=>e=yC (Xu l)/\r7 w w':=by
 have hcs:=λW=>zU l [93] W hl;rw[show E [93]=⟨#[93]⟩from rfl]at hcs;have htl:=DZ l [93];have hsx:=λW (h:r7 w W)=>AS (Lib.trimSuffix l [93]) W M0 (hE.below h);obtain⟨R,hR⟩:=V (Xu l);rw[<-hR];unfold Xu at hR;have hrg:=λa (h:pK (Lib.trimSuffix l [93])=some a)=>(mT h).1;obtain⟨T,hT⟩:=V (Lib.trimSuffix l [93]);rw[<-hT]at hcs hsx hR hrg;obtain⟨q,hq⟩:=V (Lib.hasSuffix l [93]);rw[<-hq]at hcs hR;clear hT hq htl hE;obtain⟨s,hs⟩:=V (E l);rw[<-hs]at hcs ⊢;clear hs hl;have xL:=F hcs;clear hcs;have HI:=F<|sq w;cases q with
 |false =>
  rw[if_neg Oc]at hR;have HR:=F hR;clear hR hsx hrg;go_enter func209,ntmps209
  go_wp2_with (first
   |(refine aM rfl 32 rfl _ _ (qw _) ?_)
   |(go_at_call 104;refine(xL.o _).m ?_;rintro e w2 ⟨rfl,hw2⟩;subst hw2)
   |(refine ea rfl (.tmp 2) (.tmp 15) rfl w w.heap.size _ H0 HI.o (ag _) rfl rfl rfl ?_;intro w3 i3;have HI3:=F i3;clear i3))
  exact Ze rfl rfl HI3.o (by rw[HR.o];rfl) (by rw[HR.o];rfl)
 |true =>
  rw[if_pos rfl]at hR;cases xF:pK T with
  |none =>
   rw[xF]at hR hsx
   change ∀W,r7 w W->Calls _ _ _ W λe w'=>e=.returned (.tuple #[.agg (dz Z8).toArray,.bool false])/\r7 W w' at hsx
   have HR:=F hR;clear hR hrg xF;have EG:=F hsx;clear hsx;go_enter func209,ntmps209
   go_wp2_with (first
    |(refine aM rfl 32 rfl _ _ (qw _) ?_)
    |(go_at_call 104;refine(xL.o _).m ?_;rintro e w2 ⟨rfl,hw2⟩;subst hw2)
    |(go_at_call 220;refine(EG.o _ HI.o.bL).m ?_;rintro e w2 ⟨rfl,hb2⟩;have HI2:=F<|HI.o.below (ag _) hb2;clear hb2)
    |(refine aM rfl 30 rfl _ _ (qu _) ?_)
    |(refine gy rfl 30 (.tmp 6) (.tmp 19) rfl (dz Z8).toArray (dz Z8).toArray _ rfl rfl (by rw[oD];rfl) rfl (Gz _) ?_;have HI3:=F<|HI2.o.alloc (.cells (dz Z8).toArray 30) (ag _))
    |(refine ea rfl (.tmp 2) (.tmp 23) rfl w w.heap.size _ H0 HI3.o (ag _) rfl rfl rfl ?_;intro w4 i4;have HI4:=F i4;clear i4))
   exact Ze rfl rfl HI4.o (by rw[HR.o];rfl) (by rw[HR.o];rfl)
  |some a =>
   rw[xF]at hR hsx
   change ∀W,r7 w W->Calls _ _ _ W λe w'=>e=.returned (.tuple #[.agg (dz a).toArray,.bool true])/\r7 W w' at hsx
   have ha:=hrg a xF;have HA8:=F ha;have hbl:=a3j a ha;obtain⟨G',hG⟩:∃ G':gF,G'={H0 with kind:=4,six:=a}:=⟨_,rfl⟩;have hG8:G'.six.length=8:=by rw[hG];exact ha
   replace hR:R=some G':=by rw[hR,hG]
   rw[<-hG]at hbl;clear hG;have Tx:=F hG8;clear hG8;have lZ:=F hbl;clear hbl;have HR:=F hR;clear hR hrg xF ha;have EG:=F hsx;clear hsx;obtain⟨ca,hca⟩:=V ((dz a).toArray);rw[<-hca]at EG lZ;have h8:ca.size=8:=by rw[hca];simp[HA8.o]
   have hon:ca.all (·.oneCell')=true:=by rw[hca];exact Gz a
   clear hca;have HON:=F hon;clear hon;go_enter func209,ntmps209
   go_wp2_with (first
    |(refine aM rfl 32 rfl _ _ (qw _) ?_)
    |(go_at_call 104;refine(xL.o _).m ?_;rintro e w2 ⟨rfl,hw2⟩;subst hw2)
    |(go_at_call 220;refine(EG.o _ HI.o.bL).m ?_;rintro e w2 ⟨rfl,hb2⟩;have HI2:=F<|HI.o.below (ag _) hb2;clear hb2)
    |(refine aM rfl 30 rfl _ _ (qu _) ?_)
    |(refine gy rfl 30 (.tmp 6) (.tmp 19) rfl ca (dz Z8).toArray _ rfl rfl (by rw[oD,h8]) (by rw[h8];rfl) HON.o ?_;have HI3:=F<|HI2.o.alloc (.cells ca 30) (ag _))
    |(refine vS rfl 30 (.tmp 6) rfl ca _ rfl _ underlying30 rfl (by rw[oD,h8]) ?_)
    |(refine zR rfl 0 3 (.const (.int .i64 4)) (.tmp 24) rfl (.int .i64 4) (.agg ca) (.agg (aT G')) rfl rfl lZ.o ?_)
    |(refine ea rfl (.tmp 2) (.tmp 25) rfl w w.heap.size _ G' HI3.o (ag _) Tx.o rfl rfl ?_;intro w4 i4;have HI4:=F i4;clear i4))
   exact Ze rfl rfl HI4.o (by rw[HR.o];rfl) (by rw[HR.o];rfl)

theorem Av{tmps:Array Z}{w w2:H}{b:Nat}{h:gF}{q:Bool}(I:tmps.getD 2 undef=.pointer (some ⟨b,0,none⟩))(h3:tmps.getD 3 undef=.bool q)(i:Bz w b h w2){R:Option gF}(hR:h=R.getD H0)(hq:q=R.isSome) :
  bodyPost prog f210 (λe w'=>e=yC R/\r7 w w') Exit.ret {tmps:=tmps,defers:=[]} w2:=by
 have h2':tmps[2]?.getD undef=.pointer (some ⟨b,0,none⟩):=by simpa using I
 have h3':tmps[3]?.getD undef=.bool q:=by simpa using h3
 have hl:=oT w2 b h i.a i.l;refine bodyPost_ret (v:=.tuple #[.agg (aT h),.bool q]) ?_ rfl ⟨by rw[hR,hq],i.bL⟩;simp[results,results210,asAddr,h2',h3',hl]
theorem rf:∀ (n:Nat) (l:O),l.length<=n->(nJ l).length<=l.length
 |0,l,h=>by
  obtain rfl:l=[]:=az M0;simp[nJ]
 |n+1,[],_=>by simp[nJ]
 |n+1,[c],_=>by simp[nJ]
 |n+1,[c,x],_=>by simp[nJ]
 |n+1,c::x::y::t,h=>by
  rw[nJ]
  split
  ·have:=rf n t (by simp at h;omega)
   simp;omega
  have:=rf n (x::y::t) (by simp at h ⊢;omega);simp at this ⊢;omega
theorem LN(l:O)(w:H)(hl:l.length<=307200000)(ht:(fq (signs (nJ l))).length<=102400000)(hn:∀ n,nw (nJ l)=some n->n.length<=102400000)(hE:Env w) :
  Calls prog 210 #[.string (E l)] w λe w'=>e=yC (XX l)/\r7 w w':=by
 have hpd:=λW=>Dl l W M0;have hpl:=rf _ l (ag _);have PQ:=λW (h:r7 w W)=>Fp (nJ l) W M0 ht (hE.below h);obtain⟨R,hR⟩:=V (XX l);rw[<-hR];unfold XX at hR;obtain⟨D,hD⟩:=V (nJ l);rw[<-hD]at hpd PQ hR hn;clear hD hpl ht hl;obtain⟨s,hs⟩:=V (E l);rw[<-hs]at hpd ⊢;clear hs;have HPD:=F hpd;clear hpd;have SW:=F hE;clear hE;have HI:=F<|sq w;cases hd:nw D with
 |none =>
  rw[hd]at hR PQ;have HR:=F (show R=none from hR);clear hR hn hd
  change ∀W,r7 w W->Calls _ _ _ W λe w'=>e=.returned (.tuple #[S [],.bool false])/\r7 W w' at PQ
  have HDM:=F PQ;clear PQ;go_enter func210,ntmps210
  go_wp2_with (first
   |(refine aM rfl 32 rfl _ _ (qw _) ?_)
   |(go_at_call 222;refine(HPD.o _).m ?_;rintro e w2 ⟨v,rfl,ho2,hb2⟩;have HCV:=F<|jq (P:=prog) (src:=25) (dst:=9) underlying25 underlying5 underlying9 ho2;have hcv:=HCV.o;clear ho2;have HI2:=F<|HI.o.below (ag _) hb2;clear hb2)
   |(go_at_call 221;refine(HDM.o _ HI2.o.bL).m ?_;rintro e w3 ⟨rfl,hb3⟩;have HI3:=F<|HI2.o.below (ag _) hb3;clear hb3)
   |(refine ea rfl (.tmp 2) (.tmp 22) rfl w w.heap.size _ H0 HI3.o (ag _) rfl rfl rfl ?_;intro w4 i4;have HI4:=F i4;clear i4))
  exact Av rfl rfl HI4.o (by rw[HR.o];rfl) (by rw[HR.o];rfl)
 |some n =>
  rw[hd]at hR PQ;have hnm:=hn n hd;replace hR:R=if n=[]then none else if n.any (λx=>Jr (G x))=true then none else if yo n=true then(match nZ n with|none=>none|some v=>some {H0 with kind:=3,four:=v})else some {H0 with kind:=2,name:=n}:=hR;have hen:=λW (h:r7 w W)=>OY n W hnm (SW.o.below h);have hfp:=λW (h:r7 w W)=>FL n W hnm (SW.o.below h);have hyes:∀ k (hk:k<n.length),Jr (G n[k])=true->(n.any λx=>Jr (G x))=true:=λk hk h=>Ib (f:=λx=>Jr (G x)) hk h;have hno:(∀k (hk:k<n.length),Jr (G n[k])=false)->(n.any λx=>Jr (G x))=false:=λh=>NJ (f:=λx=>Jr (G x)) h;have hb2:=a3h n;obtain⟨G2,hG2⟩:∃ G':gF,G'={H0 with kind:=2,name:=n}:=⟨_,rfl⟩;have ZD:G2.six.length=8:=by rw[hG2];rfl
  rw[<-hG2]at hb2 hR;clear hG2;obtain⟨u,hu⟩:=V (E n)
  change ∀W,r7 w W->Calls _ _ _ W λe w'=>e=.returned (.tuple #[.string (E n),.bool true])/\r7 W w' at PQ
  rw[<-hu]at PQ hen hfp hb2;have hsz:u.size=n.length:=by rw[hu,aF]
  have hby:∀ k (hk:k<u.size) (hk2:k<n.length),((u[k]'hk).toNat:Int)=G n[k]:=λk hk hk2=>cy hu hk hk2;have hue:(u.toList=[]) ↔ n=[]:=by rw[hu,aB]
  clear hu hn hd;have HDM:=F PQ;clear PQ;by_cases hnil:n=[]
  ·rw[if_pos hnil]at hR
   have he2:=hue.mpr hnil;have he:u.toList.isEmpty=true:=by rw[he2];rfl
   have HR:=F hR;clear hR hen hfp hyes hno hb2 hby hue hnil hsz ZD;go_enter func210,ntmps210
   go_wp2_with (first
   |(refine aM rfl 32 rfl _ _ (qw _) ?_)
   |(go_at_call 222;refine(HPD.o _).m ?_;rintro e w2 ⟨v,rfl,ho2,hb2⟩;have HCV:=F<|jq (P:=prog) (src:=25) (dst:=9) underlying25 underlying5 underlying9 ho2;have hcv:=HCV.o;clear ho2;have HI2:=F<|HI.o.below (ag _) hb2;clear hb2)
   |(go_at_call 221;refine(HDM.o _ HI2.o.bL).m ?_;rintro e w3 ⟨rfl,hb3⟩;have HI3:=F<|HI2.o.below (ag _) hb3;clear hb3)
   |(refine ea rfl (.tmp 2) (.tmp 22) rfl w w.heap.size _ H0 HI3.o (ag _) rfl rfl rfl ?_;intro w4 i4;have HI4:=F i4;clear i4))
   exact Av rfl rfl HI4.o (by rw[HR.o];rfl) (by rw[HR.o];rfl)
  rw[if_neg hnil]at hR;have he2:¬ u.toList=[]:=λh=>hnil (hue.mp h);have he:u.toList.isEmpty=false:=by simpa using he2
  obtain⟨N,hN⟩:=V (u.size);have iP:u.size=N:=hN.symm;have oP:N<=102400000:=M0;have eM:=F (show N=n.length by omega);clear hN hsz hnm hue hnil;have iV:=F hby;clear hby;have kP:=F hyes;clear hyes;have px:=F hno;clear hno;have HR:=F hR;clear hR;have zC:=F hen;clear hen;have WW:=F hfp;clear hfp;have HB2:=F hb2;clear hb2;have a7s:=F ZD;clear ZD;go_enter func210,ntmps210
  go_wp2_with (first
   |(refine aM rfl 32 rfl _ _ (qw _) ?_)
   |(go_at_call 222;refine(HPD.o _).m ?_;rintro e w2 ⟨v,rfl,ho2,hb2⟩;have HCV:=F<|jq (P:=prog) (src:=25) (dst:=9) underlying25 underlying5 underlying9 ho2;have hcv:=HCV.o;clear ho2;have HI2:=F<|HI.o.below (ag _) hb2;clear hb2)
   |(go_at_call 221;refine(HDM.o _ HI2.o.bL).m ?_;rintro e w3 ⟨rfl,hb3⟩;have HI3:=F<|HI2.o.below (ag _) hb3;clear hb3))
  go_loopw [25] (λiv wr=>∃ k:Nat,k<=N/\iv=.int .i64 k/\Hid (∀j (hj:j<n.length),j<k->Jr (G n[j])=false)/\w3=wr) (λi _=>N-(intOf i).toNat)
  case atStart=>exact⟨0,aL _,Oc,λj _ h=>absurd h (cL j),rfl⟩
  case round =>
   obtain⟨k,hk,rfl,hall,rfl⟩:=hrel;by_cases hlt:k<N
   ·have mf:k<u.size:=by rw[iP];exact hlt
    have hkl:k<n.length:=by have:=eM.o;omega
    have X:=iV.o k mf hkl;have hy:Jr (G n[k])=true->R=none:=λh=>by rw[HR.o,if_pos (kP.o k hkl h)]
    have hsn:Jr (G n[k])=false->∀ j (hj:j<n.length),j<k+1->Jr (G n[j])=false:=λh j hj Y=>by
     rcases cI j k with I|I
     ·exact hall.o j hj I
     obtain rfl:j=k:=M0;exact h
    have hbd:=λW=>Im (G n[k]) W;generalize G n[k]=X' at X hy hsn hbd;have pN:=F hbd;clear hbd hall;have hdef:Jr X'=(np X'||decide (X'<32\/X'=37\/X'=127)):=rfl;rw[hdef]at hy hsn;clear hdef;obtain⟨q,hq⟩:=V (np X');rw[<-hq]at hy hsn pN;have HQ:=F hq;clear hq;cases q with
    |true =>
     have HF:=F<|hy rfl;clear hy hsn
     go_wp2_with (first
      |(go_at_call 211;refine(pN.o _).m ?_;rintro e w4 ⟨rfl,hw4⟩;subst hw4)
      |(refine ea rfl (.tmp 2) (.tmp 45) rfl w w.heap.size _ H0 HI3.o (ag _) rfl rfl rfl ?_;intro w5 i5;have Bq:=F i5;clear i5))
     exact Av rfl rfl Bq.o (by rw[HF.o];rfl) (by rw[HF.o];rfl)
    |false =>
     by_cases Y:X'<32
     ·have HF:=F<|hy (by simp[Y]);clear hy hsn
      go_wp2_with (first
       |(go_at_call 211;refine(pN.o _).m ?_;rintro e w4 ⟨rfl,hw4⟩;subst hw4)
       |(refine ea rfl (.tmp 2) (.tmp 45) rfl w w.heap.size _ H0 HI3.o (ag _) rfl rfl rfl ?_;intro w5 i5;have Bq:=F i5;clear i5))
      exact Av rfl rfl Bq.o (by rw[HF.o];rfl) (by rw[HF.o];rfl)
     by_cases I:X'=37
     ·have HF:=F<|hy (by simp[I]);clear hy hsn
      subst I
      go_wp2_with (first
       |(go_at_call 211;refine(pN.o _).m ?_;rintro e w4 ⟨rfl,hw4⟩;subst hw4)
       |(refine ea rfl (.tmp 2) (.tmp 45) rfl w w.heap.size _ H0 HI3.o (ag _) rfl rfl rfl ?_;intro w5 i5;have Bq:=F i5;clear i5))
      exact Av rfl rfl Bq.o (by rw[HF.o];rfl) (by rw[HF.o];rfl)
     have q2:(X'==37)=false:=by simpa using I
     by_cases h3:X'=127
     ·have HF:=F<|hy (by simp[h3]);clear hy hsn
      subst h3
      go_wp2_with (first
       |(go_at_call 211;refine(pN.o _).m ?_;rintro e w4 ⟨rfl,hw4⟩;subst hw4)
       |(refine ea rfl (.tmp 2) (.tmp 45) rfl w w.heap.size _ H0 HI3.o (ag _) rfl rfl rfl ?_;intro w5 i5;have Bq:=F i5;clear i5))
      exact Av rfl rfl Bq.o (by rw[HF.o];rfl) (by rw[HF.o];rfl)
     have q3:(X'==127)=false:=by simpa using h3
     have HS:=F<|hsn (by simp[Y,I,h3]);clear hy hsn
     go_wp2_with (first
      |(go_at_call 211;refine(pN.o _).m ?_;rintro e w4 ⟨rfl,hw4⟩;subst hw4))
     go_roundw
     case rel=>exact⟨k+1,M0,Oc,HS.o,by trivial⟩
     case measure=>simp[intOf];omega
   obtain rfl:k=N:=M0;have hr:=HR.o;rw[if_neg (by rw[px.o (λj hj=>hall.o j hj (by have:=eM.o;omega))];simp)]at hr;clear HR;cases hef:yo n with
   |false =>
    rw[hef,if_neg Oc]at hr;rw[hef]at zC;have HR:=F hr;clear hr hef hall
    go_wp2_with (first
     |(go_at_call 223;refine(zC.o _ HI3.o.bL).m ?_;rintro e w4 ⟨rfl,hb4⟩;have HI4:=F<|HI3.o.below (ag _) hb4;clear hb4)
     |(refine zR rfl 0 1 (.const (.int .i64 2)) (.tmp 50) rfl (.int .i64 2) (.string u) (.agg (aT G2)) rfl rfl HB2.o ?_)
     |(refine ea rfl (.tmp 2) (.tmp 51) rfl w w.heap.size _ G2 HI4.o (ag _) a7s.o rfl rfl ?_;intro w5 i5;have Bq:=F i5;clear i5))
    exact Av rfl rfl Bq.o (by rw[HR.o];rfl) (by rw[HR.o];rfl)
   |true =>
    rw[hef,if_pos rfl]at hr;rw[hef]at zC;cases hfq:nZ n with
    |none =>
     rw[hfq]at hr WW;have HR:=F (show R=none from hr);clear hr hef hall hfq;replace WW:=F (show ∀W,r7 w W->bF prog 224 #[.string u] W (.tuple #[.int .u32 0,.bool false])from WW.o)
     go_wp2_with (first
      |(go_at_call 223;refine(zC.o _ HI3.o.bL).m ?_;rintro e w4 ⟨rfl,hb4⟩;have HI4:=F<|HI3.o.below (ag _) hb4;clear hb4)
      |(go_at_call 224;refine(WW.o _ HI4.o.bL).m ?_;rintro e w5 ⟨rfl,hb5⟩;have Bq:=F<|HI4.o.below (ag _) hb5;clear hb5)
      |(refine ea rfl (.tmp 2) (.tmp 59) rfl w w.heap.size _ H0 Bq.o (ag _) rfl rfl rfl ?_;intro w6 i6;have HI6:=F i6;clear i6))
     exact Av rfl rfl HI6.o (by rw[HR.o];rfl) (by rw[HR.o];rfl)
    |some v =>
     rw[hfq]at hr WW;have hb3:=a3i v;obtain⟨G3,hG3⟩:∃ G':gF,G'={H0 with kind:=3,four:=v}:=⟨_,rfl⟩;have a3N:G3.six.length=8:=by rw[hG3];rfl
     replace hr:R=some G3:=by rw[hr,hG3]
     rw[<-hG3]at hb3;clear hG3;have HB3:=F hb3;clear hb3;have a7t:=F a3N;clear a3N;have HR:=F hr;clear hr hef hall hfq;replace WW:=F (show ∀W,r7 w W->bF prog 224 #[.string u] W (.tuple #[.int .u32 v,.bool true])from WW.o)
     go_wp2_with (first
      |(go_at_call 223;refine(zC.o _ HI3.o.bL).m ?_;rintro e w4 ⟨rfl,hb4⟩;have HI4:=F<|HI3.o.below (ag _) hb4;clear hb4)
      |(go_at_call 224;refine(WW.o _ HI4.o.bL).m ?_;rintro e w5 ⟨rfl,hb5⟩;have Bq:=F<|HI4.o.below (ag _) hb5;clear hb5)
      |(refine zR rfl 0 2 (.const (.int .i64 3)) (.tmp 60) rfl (.int .i64 3) (.int .u32 v) (.agg (aT G3)) rfl rfl HB3.o ?_)
      |(refine ea rfl (.tmp 2) (.tmp 61) rfl w w.heap.size _ G3 Bq.o (ag _) a7t.o rfl rfl ?_;intro w6 i6;have HI6:=F i6;clear i6))
     exact Av rfl rfl HI6.o (by rw[HR.o];rfl) (by rw[HR.o];rfl)

theorem Rt{tmps:Array Z}{w w2:H}{b:Nat}{h:gF}{q:Bool}(I:tmps.getD 4 undef=.pointer (some ⟨b,0,none⟩))(h3:tmps.getD 5 undef=.bool q)(i:Bz w b h w2){R:Option gF}(hR:h=R.getD H0)(hq:q=R.isSome) :
  bodyPost prog f185 (λe w'=>e=yC R/\r7 w w') Exit.ret {tmps:=tmps,defers:=[]} w2:=by
 have h2':tmps[4]?.getD undef=.pointer (some ⟨b,0,none⟩):=by simpa using I
 have h3':tmps[5]?.getD undef=.bool q:=by simpa using h3
 have hl:=oT w2 b h i.a i.l;refine bodyPost_ret (v:=.tuple #[.agg (aT h),.bool q]) ?_ rfl ⟨by rw[hR,hq],i.bL⟩;simp[results,results185,asAddr,h2',h3',hl]
theorem Uk{s:O}:((Xu s).getD H0).six.length=8:=by
 unfold Xu
 split
 ·cases h:pK (Lib.trimSuffix s [93])with
  |none=>rfl
  |some a=>exact(mT h).1
 rfl
theorem VH{s:O}:((XX s).getD H0).six.length=8:=by
 unfold XX
 split
 ·rfl
 split
 ·rfl
 split
 ·rfl
 split
 ·split <;>rfl
 rfl
theorem a9R(l:O):Lib.hasPrefix l [91]=decide (l.head? = some 91):=by
 cases l with
 |nil=>rfl
 |cons x r =>
  show((91==x)&&true)=_;rw[nk,bX];simp only[beq_iff_eq,oI,ly,decide_eq_true_eq];exact eq_comm
structure Short (l:O):Prop where
 sl:l.length<=307200000
 st:(fq (signs (nJ l))).length<=102400000
 sn:∀ n,nw (nJ l)=some n->n.length<=102400000
theorem DJ{l:O}(h:l.length<=1048576):Short l:=by
 have Y:=rf _ l (ag _);have I:=rx (signs (nJ l));have h3:=lR _ (nJ l) (ag _);exact⟨M0,M0,λn hn=>by have:=Cg hn;omega⟩
theorem vG(l:O)(sp:Bool)(w:H)(hS:Short l)(hE:Env w):Calls prog 185 #[.string (E l),.bool sp] w λe w'=>e=yC (fm l sp)/\r7 w w':=by
 obtain⟨hl,hst,hsn⟩:=hS;have rH:=λW=>mE l [91] W;rw[show E [91]=⟨#[91]⟩from rfl,a9R]at rH;have hbr:=λW (h:r7 w W)=>xD (l.drop 1) W (by rw[aj];omega) (hE.below h);have hnm:=λW (h:r7 w W)=>LN l W hl hst hsn (hE.below h);have hpe:=λW=>eT 0 l W M0;obtain⟨R,hR⟩:=V (fm l sp);rw[<-hR];unfold fm at hR;have hyes:∀ k (hk:k<l.length),np (G l[k])=true->(l.any λx=>np (G x))=true:=λk hk h=>Ib (f:=λx=>np (G x)) hk h;have hno:(∀k (hk:k<l.length),np (G l[k])=false)->(l.any λx=>np (G x))=false:=λh=>NJ (f:=λx=>np (G x)) h;obtain⟨s,hs⟩:=V (E l);have hsz:s.size=l.length:=by rw[hs,aF]
 have hby:∀ k (hk:k<s.size) (hk2:k<l.length),((s[k]'hk).toNat:Int)=G l[k]:=λk hk hk2=>cy hs hk hk2;have hue:(s.toList=[]) ↔ l=[]:=by rw[hs,aB]
 have hex:s.extract 1 s.size=E (l.drop 1):=by rw[hs,cd,aF,aP (by rw[aj];omega)]
 rw[<-hs]at rH hnm hpe ⊢;clear hs hst hsn hE;obtain⟨N,hN⟩:=V (s.size);have iP:s.size=N:=hN.symm;rw[iP]at hex;have oP:N<=307200000:=M0;have mc:N=l.length:=M0;clear hN hsz hl;have HI:=F<|sq w;by_cases ZB:l.head? = some 91
 ·rw[if_pos ZB]at hR
  rw[decide_eq_true ZB]at rH
  have hN1:1<=N:=by
   cases l with
   |nil=>cases ZB
   |cons x r=>rw[mc];simp
  obtain⟨u,hu⟩:=V (E (l.drop 1));rw[<-hu]at hex hbr;have Tx:=F<|Uk (s:=l.drop 1);obtain⟨B,hB⟩:=V (Xu (l.drop 1));rw[<-hB]at hR hbr Tx;clear hB hu ZB hnm hpe hyes hno hby hue mc;obtain⟨G',hG⟩:=V (B.getD H0);obtain⟨q,hq⟩:=V (B.isSome);have HBR:=F (show ∀W,r7 w W->bF prog 209 #[.string u] W (.tuple #[.agg (aT G'),.bool q])from by rw[hG,hq];exact hbr);rw[<-hG]at Tx;have HR:=F (show G'=R.getD H0/\q=R.isSome by rw[hR];exact⟨hG,hq⟩);have tS:=F rH;clear rH hbr hR hG hq;go_enter func185,ntmps185
  go_wp2_with (first
   |(refine aM rfl 32 rfl _ _ (qw _) ?_)
   |(go_at_call 61;refine(tS.o _).m ?_;rintro e w2 ⟨rfl,hw2⟩;subst hw2)
   |(go_at_call 209;refine(HBR.o _ HI.o.bL).m ?_;rintro e w2 ⟨rfl,hb2⟩;have HI2:=F<|HI.o.below (ag _) hb2;clear hb2)
   |(refine ea rfl (.tmp 4) (.tmp 12) rfl w w.heap.size _ G' HI2.o (ag _) Tx.o rfl rfl ?_;intro w4 i4;have HI4:=F i4;clear i4))
  exact Rt rfl rfl HI4.o HR.o.1 HR.o.2
 rw[if_neg ZB]at hR;rw[decide_eq_false ZB]at rH;have tS:=F rH;clear rH hbr hex ZB;cases sp with
 |true =>
  rw[if_pos rfl]at hR;have Tx:=F<|VH (s:=l);obtain⟨B,hB⟩:=V (XX l);rw[<-hB]at hR hnm Tx;clear hB hpe hyes hno hby hue mc;obtain⟨G',hG⟩:=V (B.getD H0);obtain⟨q,hq⟩:=V (B.isSome);have mX:=F (show ∀W,r7 w W->bF prog 210 #[.string s] W (.tuple #[.agg (aT G'),.bool q])from by rw[hG,hq];exact hnm);rw[<-hG]at Tx;have HR:=F (show G'=R.getD H0/\q=R.isSome by rw[hR];exact⟨hG,hq⟩);clear hnm hR hG hq;go_enter func185,ntmps185
  go_wp2_with (first
   |(refine aM rfl 32 rfl _ _ (qw _) ?_)
   |(go_at_call 61;refine(tS.o _).m ?_;rintro e w2 ⟨rfl,hw2⟩;subst hw2)
   |(go_at_call 210;refine(mX.o _ HI.o.bL).m ?_;rintro e w2 ⟨rfl,hb2⟩;have HI2:=F<|HI.o.below (ag _) hb2;clear hb2)
   |(refine ea rfl (.tmp 4) (.tmp 17) rfl w w.heap.size _ G' HI2.o (ag _) Tx.o rfl rfl ?_;intro w4 i4;have HI4:=F i4;clear i4))
  exact Rt rfl rfl HI4.o HR.o.1 HR.o.2
 |false =>
  rw[if_neg Oc]at hR;clear hnm;by_cases hnil:l=[]
  ·rw[if_pos hnil]at hR
   have he2:=hue.mpr hnil;have he:s.toList.isEmpty=true:=by rw[he2];rfl
   have HR:=F hR;clear hR hpe hyes hno hby hue hnil mc;go_enter func185,ntmps185
   go_wp2_with (first
    |(refine aM rfl 32 rfl _ _ (qw _) ?_)
    |(go_at_call 61;refine(tS.o _).m ?_;rintro e w2 ⟨rfl,hw2⟩;subst hw2)
    |(refine Zg rfl 0 (.const (.int .i64 1)) rfl (.int .i64 1) (.agg (aT {H0 with kind:=1})) rfl a3g ?_)
    |(refine ea rfl (.tmp 4) (.tmp 21) rfl w w.heap.size _ {H0 with kind:=1} HI.o (ag _) rfl rfl rfl ?_;intro w4 i4;have HI4:=F i4;clear i4))
   exact Rt rfl rfl HI4.o (by rw[HR.o];rfl) (by rw[HR.o];rfl)
  rw[if_neg hnil]at hR;have he2:¬ s.toList=[]:=λh=>hnil (hue.mp h);have he:s.toList.isEmpty=false:=by simpa using he2
  have hb5:=a3k (dD 0 l);obtain⟨G5,hG5⟩:∃ G':gF,G'={H0 with kind:=5,name:=dD 0 l}:=⟨_,rfl⟩;have a3O:G5.six.length=8:=by rw[hG5];rfl
  rw[<-hG5]at hb5 hR;obtain⟨c,hc⟩:=V (E (dD 0 l));have HPE:=F (show ∀W,bF prog 156 #[.string s,.int .i64 0] W (.string c)from by rw[hc];exact hpe);rw[<-hc]at hb5;clear hG5 hpe hc hue hnil;have eM:=F mc;clear mc;have iV:=F hby;clear hby;have kP:=F hyes;clear hyes;have px:=F hno;clear hno;have HR:=F hR;clear hR;have gD:=F hb5;clear hb5;have a7v:=F a3O;clear a3O;go_enter func185,ntmps185
  go_wp2_with (first
   |(refine aM rfl 32 rfl _ _ (qw _) ?_)
   |(go_at_call 61;refine(tS.o _).m ?_;rintro e w2 ⟨rfl,hw2⟩;subst hw2))
  go_loopw [24] (λiv wr=>∃ k:Nat,k<=N/\iv=.int .i64 k/\Hid (∀j (hj:j<l.length),j<k->np (G l[j])=false)/\wr=w.alloc (.cells (aT H0) 32)) (λi _=>N-(intOf i).toNat)
  case atStart=>exact⟨0,aL _,Oc,λj _ h=>absurd h (cL j),rfl⟩
  case round =>
   obtain⟨k,hk,rfl,hall,rfl⟩:=hrel;by_cases hlt:k<N
   ·have mf:k<s.size:=by rw[iP];exact hlt
    have hkl:k<l.length:=by have:=eM.o;omega
    have X:=iV.o k mf hkl;have hy:np (G l[k])=true->R=none:=λh=>by rw[HR.o,if_pos (kP.o k hkl h)]
    have hsn:np (G l[k])=false->∀ j (hj:j<l.length),j<k+1->np (G l[j])=false:=λh j hj Y=>by
     rcases cI j k with I|I
     ·exact hall.o j hj I
     obtain rfl:j=k:=M0;exact h
    have hbd:=λW=>Im (G l[k]) W;generalize G l[k]=X' at X hy hsn hbd;have pN:=F hbd;clear hbd hall;cases hq:np X' with
    |true =>
     have HF:=F<|hy hq;rw[hq]at pN;clear hy hsn hq
     go_wp2_with (first
      |(go_at_call 211;refine(pN.o _).m ?_;rintro e w4 ⟨rfl,hw4⟩;subst hw4)
      |(refine ea rfl (.tmp 4) (.tmp 31) rfl w w.heap.size _ H0 HI.o (ag _) rfl rfl rfl ?_;intro w5 i5;have Bq:=F i5;clear i5))
     exact Rt rfl rfl Bq.o (by rw[HF.o];rfl) (by rw[HF.o];rfl)
    |false =>
     have HS:=F<|hsn hq;rw[hq]at pN;clear hy hsn hq
     go_wp2_with (first
      |(go_at_call 211;refine(pN.o _).m ?_;rintro e w4 ⟨rfl,hw4⟩;subst hw4))
     go_roundw
     case rel=>exact⟨k+1,M0,Oc,HS.o,by first|rfl|trivial⟩
     case measure=>simp[intOf];omega
   obtain rfl:k=N:=M0;have hr:=HR.o;rw[if_neg (by rw[px.o (λj hj=>hall.o j hj (by have:=eM.o;omega))];simp)]at hr;have HR:=F hr;clear hr hall
   go_wp2_with (first
    |(go_at_call 156;refine(HPE.o _).m ?_;rintro e w4 ⟨rfl,hb4⟩;have HI4:=F<|HI.o.below (ag _) hb4;clear hb4)
    |(refine zR rfl 0 1 (.const (.int .i64 5)) (.tmp 34) rfl (.int .i64 5) (.string c) (.agg (aT G5)) rfl rfl gD.o ?_)
    |(refine ea rfl (.tmp 4) (.tmp 35) rfl w w.heap.size _ G5 HI4.o (ag _) a7v.o rfl rfl ?_;intro w5 i5;have Bq:=F i5;clear i5))
   exact Rt rfl rfl Bq.o (by rw[HR.o];rfl) (by rw[HR.o];rfl)

theorem xV:∀ n∈Z8,0<=n/\n<65536:=P8
theorem od{s:O}{sp:Bool}{h:gF}(e:sS s sp h):sV h:=by
 cases e with
 |six a h8 ha hs=>exact⟨Oc,by simp[H0],h8,ha⟩
 |name n e hs hd hn U he=>exact⟨Oc,by simp[H0],rfl,xV⟩
 |four n e hs h=>exact⟨Oc,⟨Oc,by simp only;omega⟩,rfl,xV⟩
 |empty e h=>exact⟨Oc,by simp[H0],rfl,xV⟩
 |a0z e hs h U=>exact⟨Oc,by simp[H0],rfl,xV⟩
theorem WN:sV H0:=⟨by simp[H0],by simp[H0],rfl,xV⟩
theorem VR(s:O):(dD 0 s).length<=3*s.length:=gv 0 s

structure qj where
 user:O
 pass:O
 host:gF
 bz:Bool
 port:Int
def A0:qj:=⟨[],[],H0,false,0⟩
def eU(s:O):Bool:=s == [102,116,112]||s == [102,105,108,101]||s == [104,116,116,112]||s == [104,116,116,112,115]||s == [119,115]||s == [119,115,115]
def GB(s:O):Option Int :=
 if s=[102,116,112]then some 21 else if s=[104,116,116,112]\/s=[119,115]then some 80 else if s=[104,116,116,112,115]\/s=[119,115,115]then some 443 else none
def kU:Int->O->Option Int
 |n,[]=>some n
 |n,c::t=>if fg (G c) 10<0 then none else kU (if(9223372036854775807-fg (G c) 10)/10<n then 9223372036854775807 else n*10+fg (G c) 10) t
def dc(s:O):Option Int:=if s=[]then none else kU 0 s
def Uc(aJ s:O):Option (Int×Bool) :=
 if s=[]then some (0,false)else match dc s with
  |none=>none
  |some n=>if 65535<n then none else if GB aJ=some n then some (0,false)else some (n,true)
def zL:O->Option (O×O)
 | []=>none
 |c::t=>match zL t with|some (a,b)=>some (c::a,b)|none=>if c=64 then some ([],t)else none
def qH:O->O×O
 | []=>([],[])
 |c::t=>if c=58 then([],t)else(c::(qH t).1,(qH t).2)
def Ow:Bool->O->Option (O×O)
 |_,[]=>none
 |i,c::t=>if c=58/\i=false then some ([],t)else(Ow (if c=91 then true else if c=93 then false else i) t).map λp=>(c::p.1,p.2)
def Ct(aJ n q u p:O):Option qj:=match fm n (eU aJ)with
 |none=>none
 |some h=>match Uc aJ q with|none=>none|some (k,b)=>some ⟨u,p,h,b,k⟩
def tG(aJ s u p:O):Option qj:=match Ow false s with
 |some (n,q)=>if n=[]then none else Ct aJ n q u p
 |none=>Ct aJ s [] u p
def kr(aJ s:O):Option qj:=match zL s with
 |none=>tG aJ s [] []
 |some (who,rest)=>if rest=[]then none else tG aJ rest (dD 5 (qH who).1) (dD 5 (qH who).2)
theorem zM:∀ {s:O},(64:UInt8)∉s->zL s=none
 | [],_=>rfl
 |c::t,h=>by
  rw[zL,zM (s:=t) (λI=>h (by simp[I]))];dsimp only;rw[if_neg (λe=>h (by simp[e]))]
theorem NO(a:O){b:O}(h:(64:UInt8)∉b):zL (a++64::b)=some (a,b):=by
 induction a with
 |nil=>rw[dg,zL,zM h];rfl
 |cons x r ih=>rw[dE,zL,ih]
theorem Xj:∀ {s a b:O},zL s=some (a,b)->s=a++64::b/\(64:UInt8)∉b
 | [],_,_,h=>by cases h
 |c::t,a,b,h=>by
  rw[zL]at h;cases ht:zL t with
  |some p =>
   obtain⟨a',b'⟩:=p;rw[ht]at h;injection h with h
   injection h with Y I
   subst Y;subst I;obtain⟨e,hn⟩:=Xj ht;exact⟨by rw[e];rfl,hn⟩
  |none =>
   rw[ht]at h;dsimp only at h
   split at h
   ·next hc =>
    injection h with h
    injection h with Y I
    subst Y;subst I;subst hc;refine⟨rfl,λhm=>?_⟩
    have key:∀ t:O,(64:UInt8)∈t->zL t≠none:=by
     intro t
     induction t with
     |nil=>intro h;cases h
     |cons x r ih =>
      intro X e;rw[zL]at e;cases hr:zL r with
      |some p=>rw[hr]at e;cases e
      |none =>
       rw[hr]at e;dsimp only at e;rcases aK.mp X with X|X
       ·rw[if_pos X.symm]at e;cases e
       exact ih X hr
    exact key _ hm ht
   cases h

theorem JQ:∀ (l:O) (n v:Int),0<=n->kU n l=some v->0<=v
 | [],n,v,h,e=>by rw[kU]at e;injection e with e;omega
 |c::t,n,v,h,e=>by
  rw[kU]at e
  split at e
  ·cases e
  next hd =>
  refine JQ t _ v ?_ e
  split <;>omega
theorem a28{aJ q:O}{k:Int}{b:Bool}(h:Uc aJ q=some (k,b)):(b=false/\k=0)\/(b=true/\0<=k/\k<=65535/\GB aJ≠some k/\q ≠ []):=by
 unfold Uc at h
 split at h
 ·injection h with h;injection h with Y I;exact .inl ⟨I.symm,Y.symm⟩
 next hq =>
 cases hw:dc q with
 |none=>rw[hw]at h;cases h
 |some n =>
  rw[hw]at h;dsimp only at h
  split at h
  ·cases h
  next hn =>
  split at h
  ·injection h with h;injection h with Y I;exact .inl ⟨I.symm,Y.symm⟩
  next ho =>
  injection h with h;injection h with Y I
  subst Y;unfold dc at hw;rw[if_neg hq]at hw;have:=JQ q 0 n M0 hw;exact .inr ⟨I.symm,this,M0,ho,hq⟩
structure AOk (aJ:O) (a:qj):Prop where
 h:∃ n,fm n (eU aJ)=some a.host/\(n=[]->a.user=[]/\a.pass=[]/\a.bz=false)
 u:∃ x,a.user=dD 5 x
 p:∃ x,a.pass=dD 5 x
 q:(a.bz=false/\a.port=0)\/(a.bz=true/\0<=a.port/\a.port<=65535/\GB aJ≠some a.port)
theorem Ph{aJ n q u p:O}{a:qj}(h:Ct aJ n q u p=some a)(hu:∃ x,u=dD 5 x)(hp:∃ x,p=dD 5 x)(hn:n=[]->u=[]/\p=[]/\q=[]):AOk aJ a:=by
 unfold Ct at h;cases hh:fm n (eU aJ)with
 |none=>rw[hh]at h;cases h
 |some g =>
  rw[hh]at h;dsimp only at h;cases hq:Uc aJ q with
  |none=>rw[hq]at h;cases h
  |some v =>
   obtain⟨k,b⟩:=v;rw[hq]at h;injection h with h
   subst h;have hk:=a28 hq;refine⟨⟨n,hh,λe=>?_⟩,hu,hp,?_⟩
   ·obtain⟨Y,I,h3⟩:=hn e
    refine⟨Y,I,?_⟩;rcases hk with hk|hk
    ·exact hk.1
    exact absurd h3 hk.2.2.2.2
   rcases hk with hk|hk
   ·exact .inl hk
   exact .inr ⟨hk.1,hk.2.1,hk.2.2.1,hk.2.2.2.1⟩
theorem JB{aJ s u p:O}{a:qj}(h:tG aJ s u p=some a)(hu:∃ x,u=dD 5 x)(hp:∃ x,p=dD 5 x)(hs:s=[]->u=[]/\p=[]):AOk aJ a:=by
 unfold tG at h;cases hc:Ow false s with
 |none =>
  rw[hc]at h;exact Ph h hu hp (λe=>⟨(hs e).1,(hs e).2,rfl⟩)
 |some v =>
  obtain⟨n,q⟩:=v;rw[hc]at h;dsimp only at h
  split at h
  ·cases h
  next hn=>exact Ph h hu hp (λe=>absurd e hn)
theorem Ih{aJ s:O}{a:qj}(h:kr aJ s=some a):AOk aJ a:=by
 unfold kr at h;cases ha:zL s with
 |none =>
  rw[ha]at h;exact JB h ⟨[],rfl⟩ ⟨[],rfl⟩ (λ_=>⟨rfl,rfl⟩)
 |some v =>
  obtain⟨who,rest⟩:=v;rw[ha]at h;dsimp only at h
  split at h
  ·cases h
  next hr=>exact JB h ⟨_,rfl⟩ ⟨_,rfl⟩ (λe=>absurd e hr)

theorem rI(s t:O):((E s).toList==(E t).toList)=decide (s=t):=by rw[aB,aB,jB]
theorem gl(s:O)(w:H):bP prog 117 #[.string (E s)] w (.bool (eU s)):=by
 have e1:=rI s [102,116,112];have e2:=rI s [102,105,108,101];have e3:=rI s [104,116,116,112];have e4:=rI s [104,116,116,112,115];have e5:=rI s [119,115];have e6:=rI s [119,115,115]
 have hR:eU s=(decide (s=[102,116,112])||decide (s=[102,105,108,101])||decide (s=[104,116,116,112])||decide (s=[104,116,116,112,115])||decide (s=[119,115])||decide (s=[119,115,115])):=by
  unfold eU;rw[jB,jB,jB,jB,jB,jB]
 rw[hR];generalize decide (s=[102,116,112])=b1 at e1 ⊢;generalize decide (s=[102,105,108,101])=G at e2 ⊢;generalize decide (s=[104,116,116,112])=b3 at e3 ⊢;generalize decide (s=[104,116,116,112,115])=b4 at e4 ⊢;generalize decide (s=[119,115])=b5 at e5 ⊢;generalize decide (s=[119,115,115])=b6 at e6 ⊢;clear hR;generalize E s=S at *;rw[aB]at e1 e2 e3 e4 e5 e6;cases b1
 ·cases G
  ·cases b3
   ·cases b4
    ·cases b5
     ·cases b6 <;>
      ·go_enter func117,ntmps117
       go_wp2_with fail;go_ret;exact⟨rfl,rfl⟩
     go_enter func117,ntmps117;go_wp2_with fail;go_ret;exact⟨rfl,rfl⟩
    go_enter func117,ntmps117;go_wp2_with fail;go_ret;exact⟨rfl,rfl⟩
   go_enter func117,ntmps117;go_wp2_with fail;go_ret;exact⟨rfl,rfl⟩
  go_enter func117,ntmps117;go_wp2_with fail;go_ret;exact⟨rfl,rfl⟩
 go_enter func117,ntmps117;go_wp2_with fail;go_ret;exact⟨rfl,rfl⟩
theorem Mi(s:O)(w:H):bP prog 215 #[.string (E s)] w (.tuple #[.int .i64 ((GB s).getD 0),.bool (GB s).isSome]):=by
 have e1:=rI s [102,116,112];have e3:=rI s [104,116,116,112];have e4:=rI s [104,116,116,112,115];have e5:=rI s [119,115];have e6:=rI s [119,115,115];unfold GB;by_cases b1:s=[102,116,112]
 ·rw[decide_eq_true b1]at e1
  rw[if_pos b1];clear b1;generalize E s=S at *;rw[aB]at e1 e3 e4 e5 e6;go_enter func215,ntmps215;go_wp2_with fail
  go_ret2
  exact⟨rfl,rfl⟩
 rw[decide_eq_false b1]at e1;rw[if_neg b1];clear b1;by_cases b3:s=[104,116,116,112]
 ·rw[decide_eq_true b3]at e3
  rw[if_pos (.inl b3)];clear b3;generalize E s=S at *;rw[aB]at e1 e3 e4 e5 e6;go_enter func215,ntmps215;go_wp2_with fail
  go_ret2
  exact⟨rfl,rfl⟩
 rw[decide_eq_false b3]at e3;by_cases b5:s=[119,115]
 ·rw[decide_eq_true b5]at e5
  rw[if_pos (.inr b5)];clear b5 b3;generalize E s=S at *;rw[aB]at e1 e3 e4 e5 e6;go_enter func215,ntmps215;go_wp2_with fail
  go_ret2
  exact⟨rfl,rfl⟩
 rw[decide_eq_false b5]at e5;rw[if_neg (λh=>h.elim b3 b5)];clear b3 b5;by_cases b4:s=[104,116,116,112,115]
 ·rw[decide_eq_true b4]at e4
  rw[if_pos (.inl b4)];clear b4;generalize E s=S at *;rw[aB]at e1 e3 e4 e5 e6;go_enter func215,ntmps215;go_wp2_with fail
  go_ret2
  exact⟨rfl,rfl⟩
 rw[decide_eq_false b4]at e4;by_cases b6:s=[119,115,115]
 ·rw[decide_eq_true b6]at e6
  rw[if_pos (.inr b6)];clear b4 b6;generalize E s=S at *;rw[aB]at e1 e3 e4 e5 e6;go_enter func215,ntmps215;go_wp2_with fail
  go_ret2
  exact⟨rfl,rfl⟩
 rw[decide_eq_false b6]at e6;rw[if_neg (λh=>h.elim b4 b6)];clear b4 b6;generalize E s=S at *;rw[aB]at e1 e3 e4 e5 e6;go_enter func215,ntmps215;go_wp2_with fail
 go_ret2
 exact⟨rfl,rfl⟩
theorem WE(n:Int){l:O}{k:Nat}(h:k<l.length):kU n (l.drop k)=if fg (G l[k]) 10<0 then none else kU (if(9223372036854775807-fg (G l[k]) 10)/10<n then 9223372036854775807 else n*10+fg (G l[k]) 10) (l.drop (k+1)):=by
 rw[aC h];rfl
theorem Iy(c:Int):-1<=fg c 10/\fg c 10<10:=by
 unfold fg;simp only
 split <;>(try split) <;>(try split) <;>(try split) <;>omega
theorem ki(l:O)(w:H)(hl:l.length<=1024000000) :
  bP prog 164 #[.string (E l)] w (.tuple #[.int .i64 ((dc l).getD 0),.bool (dc l).isSome]):=by
 obtain⟨R,hR⟩:=V (kU 0 l);unfold dc;rw[<-hR];have HR:=F hR;clear hR;obtain⟨s,hs⟩:=V (E l);have hsz:s.size=l.length:=by rw[hs,aF]
 have hby:∀ k (hk:k<s.size) (hk2:k<l.length),((s[k]'hk).toNat:Int)=G l[k]:=λk hk hk2=>cy hs hk hk2;have hemp:(s.toList=[]) ↔ l=[]:=by rw[hs,aB]
 rw[<-hs];clear hs;obtain⟨N,hN⟩:=V (s.size);have iP:s.size=N:=hN.symm;have oP:N<=1024000000:=M0;have iV:=F hby;clear hby;have eM:=F hsz;clear hsz hl hN;by_cases hnil:l=[]
 ·rw[if_pos hnil]
  have he:=hemp.mpr hnil;have he1:s.toList.isEmpty=true:=by simpa using he
  clear hemp;go_enter func164,ntmps164;go_wp2_with fail
  go_ret2
  exact⟨rfl,rfl⟩
 rw[if_neg hnil];have he:¬ s.toList=[]:=λh=>hnil (hemp.mp h);have he1:s.toList.isEmpty=false:=by simpa using he
 clear hemp;have Yy:=F hnil;clear hnil;go_enter func164,ntmps164;go_wp2_with fail
 go_loopw [4,11] (λnv iv wr=>∃ (k:Nat) (n:Int),k<=N/\iv=.int .i64 k/\nv=.int .i64 n/\Hid (kU n (l.drop k)=R)/\0<=n/\n<=9223372036854775807/\w=wr) (λ_ i _=>N-(intOf i).toNat)
 case atStart=>exact⟨0,0,M0,Oc,Oc,HR.o.symm,M0,M0,rfl⟩
 case round =>
  obtain⟨k,n,hk,rfl,rfl,hd,hn0,hn1,rfl⟩:=hrel;by_cases hlt:k<N
  ·have mf:k<s.size:=by omega
   have hkl:k<l.length:=by have:=eM.o;omega
   have X:=iV.o k mf hkl;have hst:=WE n hkl;rw[hd.o]at hst;have hr:=jL l[k];have hda:=λW=>dm (G l[k]) 10 W hr M0;have hlo:=Iy (G l[k]);obtain⟨D,hD⟩:=V (fg (G l[k]) 10);rw[<-hD]at hst hda hlo;clear hD;generalize G l[k]=X' at X hr hda;have rN:=F hda;clear hda hd;by_cases hD0:D<0
   ·rw[if_pos hD0]at hst
    have HST:=F hst;clear hst
    go_wp2_with (first|(go_at_call 90;refine(rN.o _).m ?_;rintro e w2 ⟨rfl,rfl⟩))
    go_ret2
    exact⟨by rw[HST.o];rfl,rfl⟩
   rw[if_neg hD0]at hst;have hw1:IntKind.i64.wrap (9223372036854775807-D)=9223372036854775807-D:=IntWalk.i64_in _ M0;obtain⟨M,hM⟩:=V (9223372036854775807-D);rw[<-hM]at hw1 hst;have hM0:0<=M:=M0;have hdv:Int.tdiv M 10=M/10:=a1A hM0;have hq1:0<=M/10/\M/10<=922337203685477580:=M0;have hw2:IntKind.i64.wrap (M/10)=M/10:=IntWalk.i64_in _ M0;by_cases hmn:M/10<n
   ·rw[if_pos hmn]at hst
    have HST:=F hst;clear hst
    go_wp2_with (first|(go_at_call 90;refine(rN.o _).m ?_;rintro e w2 ⟨rfl,rfl⟩))
    go_roundw
    case rel=>exact⟨k+1,9223372036854775807,M0,Oc,Oc,HST.o.symm,M0,M0,by trivial⟩
    case measure=>simp[intOf];omega
   rw[if_neg hmn]at hst;have HST:=F hst;clear hst;obtain⟨Z',hZ⟩:=V (n*10);have hw3:IntKind.i64.wrap (n*10)=n*10:=IntWalk.i64_in _ M0;have hw4:IntKind.i64.wrap (n*10+D)=n*10+D:=IntWalk.i64_in _ M0;clear hZ
   go_wp2_with (first|(go_at_call 90;refine(rN.o _).m ?_;rintro e w2 ⟨rfl,rfl⟩))
   go_roundw
   case rel=>exact⟨k+1,n*10+D,M0,Oc,Oc,HST.o.symm,M0,M0,by trivial⟩
   case measure=>simp[intOf];omega
  obtain rfl:k=N:=M0;have hdr:l.drop k=[]:=bE (by have:=eM.o;omega);have hd1:=hd.o;rw[hdr]at hd1;have HST:=F (show some n=R from hd1);clear hd1 hd;go_wp2_with fail
  go_ret2
  exact⟨by rw[<-HST.o];rfl,rfl⟩
