/- text's Right and Signs. -/
import Derived.Lib.OthersKept
import Derived.Test.YtmndlfglgcioeaaGreatDoorGTextH
set_option maxHeartbeats 40000000
namespace Go.Proofs.YtmndlfglgcioeaaGreatDoor
open Tryz
open Go.RowKit
set_option maxRecDepth 10000
def qE:Nat->Bytes->List Int
 |0,_=>[]
 |_,[]=>[]
 |f+1,x::r=>((dr (x::r)).1:Int)::qE f ((x::r).drop (dr (x::r)).2)
def runes (l:Bytes):List Int:=qE l.length l
theorem mF (f:Nat) (x:UInt8) (r:Bytes):qE (f+1) (x::r)=((dr (x::r)).1:Int)::qE f ((x::r).drop (dr (x::r)).2):=rfl
theorem rk:∀ (f g:Nat) (l:Bytes),l.length<=f->l.length<=g->qE f l=qE g l
 |0,g,l,h,_=>by
  obtain rfl:l=[]:=am (by omega)
  cases g <;>rfl
 |f+1,0,l,_,h=>by
  obtain rfl:l=[]:=am (by omega)
  rfl
 |f+1,g+1,[],_,_=>rfl
 |f+1,g+1,x::r,h,h'=>by
  have hn:=ml x r
  rw[ag]at h h'
  have hd:((x::r).drop (dr (x::r)).2).length<=r.length:=by rw[ai,ag];omega
  rw[mF,mF,rk f g _ (by omega) (by omega)]
theorem Ib:runes []=[]:=rfl
theorem tV (x:UInt8) (r:Bytes):runes (x::r)=((dr (x::r)).1:Int)::runes ((x::r).drop (dr (x::r)).2):=by
 have hn:=ml x r
 have hd:((x::r).drop (dr (x::r)).2).length<=r.length:=by rw[ai,ag];omega
 unfold runes
 rw[ag,mF,rk r.length _ _ hd (ae _)]
theorem qX (l:Bytes) (p:Nat):Utf8.decode (bs l) p=dr (l.drop p):=by
 rw[Lib.decode_at,qY,aB,ai]
 simp only[xJ,jD,d8]
theorem DD (s:ByteArray) (w:World) (hs:s.size<=307200000) (hT:rx w) :
  Calls prog 208 #[.string s] w fun e w'=>fd w 3 (dw (runes (jH (ls s)))) e w':=by
 obtain⟨i0,hi0,hz0,hz1,hz2⟩:=info_parts zZ
 have kb:=run_bytes_of_string (P:=prog) w 9 50 5 s underlying9 underlying50 underlying5
 obtain⟨cp,hcp⟩:=ap (grownCap w s.size 0 5)
 have hcp1:s.size<=cp:=by rw[hcp];exact grownCap_ge _ _ _ _
 have hcp2:cp<=maxLen:=by rw[hcp];exact grownCap_le_maxLen _ _ _ _ (by unfold maxLen;omega)
 rw[<-hcp]at kb
 clear hcp
 obtain⟨hat,hbw,hsz⟩:=Gh w s cp 5 ((bytesRow s cp).size,(bytesRow s cp).size+1)
 have hsl:Sl (w.heap.size+1) (w.alloc (.cells (bytesRow s cp) 5 ((bytesRow s cp).size,(bytesRow s cp).size+1))).drew (.slice (some ⟨w.heap.size,0,none⟩) s.size cp) (Lib.byteCells (ls s)) :=
  ⟨cp,by rw[Lib.byteCells_length,de];exact hcp1,hcp2,.inr ⟨_,0,by omega,by rw[Lib.byteCells_length,de],hat⟩⟩
 rw[<-hsz]at hsl
 have hd:=nW (ls s) _ _ hsl (by rw[de];omega) (hT.below hbw)
 have hdl:=ks _ (ls s) (ae _)
 rw[de]at hdl
 obtain⟨D,hD⟩:=ap (jH (ls s))
 rw[<-hD]at hd hdl ⊢
 clear hD
 obtain⟨T,On⟩:=ap (runes D)
 rw[<-On]
 have OW:=h_ On;clear On
 have HD:=h_ hd;clear hd
 have HB:=h_ hbw;clear hbw
 have HZ:=h_ hsz;clear hsz hsl hat hT
 go_enter func208,ntmps208
 go_wp2_with (go_at_call 20;refine(HD.out).mono ?_;rintro e w1 ⟨rfl,hb1⟩;have HB1:=h_ hb1;clear hb1)
 have Zj:Below w.heap.size w w1:=(HB.out).trans ((HB1.out).mono (by have:=HZ.out;omega))
 have Xt:=h_ Zj;clear Zj
 have DL:(bs D).size=D.length:=aB D
 have Rx:=h_ DL;clear DL
 go_loopw [3] (fun out wr=>∃ (p:Nat) (acc:List Int),p<=D.length∧wr.heap[w1.heap.size]? = some (.stringIter (bs D) p)∧wr.ownsRow (w1.heap.size+1) 3 1 out acc.length (dw acc) ∧
   acc++runes (D.drop p)=T∧acc.length<=p∧w1.heap.size<wr.heap.size∧Below w1.heap.size w1 wr) (fun _ wr=>D.length-wr.iterPos w1.heap.size)
 case atStart=>exact⟨0,[],by omega,World.iter_heap _ _ _,⟨by simp,.inl ⟨rfl,rfl⟩⟩,by simpa using OW.out.symm,by simp,by simp[World.iter],(Below.refl _ _).alloc (ae _) _⟩
 case round =>
  obtain⟨p,acc,hp,hit,hown,hacc,hal,hwz,hbel⟩:=hrel
  have HI:=h_ hit;clear hit
  have HO:=h_ hown;clear hown
  have HC:=h_ hacc;clear hacc
  have nB:=h_ hbel;clear hbel
  by_cases hlt:p<D.length
  ·have hnx:∀ ty,(Instr.next (.pointer (some ⟨w1.heap.size,0,none⟩)) true ty).run prog wr=_:=fun ty=>Lib.run_next_any_at wr w1.heap.size (bs D) p ty HI.out (by rw[Rx.out];exact hlt)
   have hdd:=qX D p
   obtain⟨x,r,hx⟩:∃ x r,D.drop p=x::r:=by
    cases h:D.drop p with
    |nil=>have:=congrArg List.length h;simp at this;omega
    |cons x r=>exact⟨x,r,rfl⟩
   have hn:=ml x r
   have hr1:=BY (x::r)
   have hlen:r.length+1=D.length-p:=by have:=congrArg List.length hx;simp at this;omega
   have hc:=HC.out
   rw[hx,tV]at hc
   rw[hdd,hx]at hnx
   have hdrop:(x::r).drop (dr (x::r)).2=D.drop (p+(dr (x::r)).2):=by rw[<-hx,oH]
   rw[hdrop]at hc
   obtain⟨rn,sz,hD⟩:∃ rn sz,dr (x::r)=(rn,sz):=⟨_,_,rfl⟩
   rw[hD]at hnx hn hr1 hc
   simp only at hnx hn hr1 hc
   clear hD hdrop hdd
   have Iz:=h_ hc;clear hc hx
   obtain⟨hn1,hn2⟩:=hn
   have EN:p+sz<=D.length:=by omega
   clear hn2 hlen
   have LA:=Lib.iterAt_heap wr w1.heap.size (bs D) p (p+sz) HI.out
   have Vk:=Lib.iterAt_size wr w1.heap.size (bs D) (p+sz)
   have hOA:=ownsRow_iterAt HO.out (k:=w1.heap.size) (bB _) (bs D) (p+sz)
   have EK:=Lib.below_iterAt (nB.out) (k:=w1.heap.size) (ae _) (bs D) (p+sz)
   obtain⟨wi,hwi⟩:=ap (wr.iterAt w1.heap.size (bs D) (p+sz))
   rw[<-hwi]at LA Vk hOA EK hnx
   have hpos:wr.iterPos w1.heap.size=p:=iterPos_of HI.out
   have HWI:=h_ hwi;clear hwi
   have yK:=h_ LA;clear LA
   have HIS:=h_ Vk;clear Vk
   have FO:=h_ hOA;clear hOA
   have lA:=h_ EK;clear EK
   have FQ:=h_ hpos;clear hpos
   have hbase:w1.heap.size+1<=wi.heap.size:=by have:=HIS.out;omega
   go_wp2_with (at_builtin;go_must (refine ez rfl (.tmp 13) (.tmp 16) _ rfl (w1.heap.size+1) 3 i0 _ 8 underlying200 hi0 hz0 hz1 hz2 rfl _ _ acc.length (dw acc) rfl FO.out (.int .i64 rn) rfl rfl (by omega) (by omega) hbase ?_);intro v2 w2 hown2 hw2 hb2;have eO:=h_ hown2;clear hown2;have HB2:=h_ hb2;clear hb2)
   go_roundw
   case rel =>
    have hb2:=HB2.out
    refine⟨p+sz,acc++[(rn:Int)],EN,(hb2.block _ (by omega)).trans yK.out,?_,?_,?_,by omega,(lA.out).trans (hb2.mono (by omega))⟩
    ·have:=eO.out
     rw[af,kO]
     simpa[dw]using this
    ·rw[aX];exact Iz.out
    rw[af,kO];omega
   case measure =>
    have e2:w2.iterPos w1.heap.size=p+sz:=iterPos_of (((HB2.out).block _ (by omega)).trans yK.out)
    rw[e2,FQ.out]
    omega
  have hnx:∀ ty,(Instr.next (.pointer (some ⟨w1.heap.size,0,none⟩)) true ty).run prog wr=_:=fun ty=>Lib.run_next_end_at wr w1.heap.size (bs D) p ty HI.out (by rw[Rx.out];exact hlt)
  go_wp2
  go_ret
  have ho:=HO.out
  have hc:=HC.out
  rw[bf (by omega),Ib,aV]at hc
  rw[hc]at ho
  have hb1:=(Xt.out).size
  exact fd.mk ho (by omega) ((Xt.out).trans ((nB.out).mono hb1))
end Go.Proofs.YtmndlfglgcioeaaGreatDoor
