/- text's Right and Signs. -/
import Derived.Lib.OthersKept
import Derived.Test.YtmndlfglgcioeaaGreatDoorEGTextH
set_option maxHeartbeats 40000000
namespace Go.Proofs.YtmndlfglgcioeaaGreatDoor
open Tryz
open Go.RowKit
set_option maxRecDepth 10000
def s6:Nat->Bytes->List Int
 |0,_=>[]
 |_,[]=>[]
 |f+1,x::r=>((dr (x::r)).1:Int)::s6 f ((x::r).drop (dr (x::r)).2)
def runes(l:Bytes):List Int:=s6 l.length l
theorem o3(f:Nat)(x:UInt8)(r:Bytes):s6 (f+1) (x::r)=((dr (x::r)).1:Int)::s6 f ((x::r).drop (dr (x::r)).2):=rfl
theorem uf:∀ (f g:Nat) (l:Bytes),l.length<=f->l.length<=g->s6 f l=s6 g l
 |0,g,l,h,_=>by
  obtain rfl:l=[]:=ak (by omega);cases g <;>rfl
 |f+1,0,l,_,h=>by
  obtain rfl:l=[]:=ak (by omega);rfl
 |f+1,g+1,[],_,_=>rfl
 |f+1,g+1,x::r,h,h'=>by
  have hn:=oF x r;rw[ag]at h h';have hd:((x::r).drop (dr (x::r)).2).length<=r.length:=by rw[ah,ag];omega
  rw[o3,o3,uf f g _ (by omega) (by omega)]
theorem Nu:runes []=[]:=rfl
theorem xD(x:UInt8)(r:Bytes):runes (x::r)=((dr (x::r)).1:Int)::runes ((x::r).drop (dr (x::r)).2):=by
 have hn:=oF x r;have hd:((x::r).drop (dr (x::r)).2).length<=r.length:=by rw[ah,ag];omega
 unfold runes;rw[ag,o3,uf r.length _ _ hd (af _)]
theorem tM(l:Bytes)(p:Nat):Utf8.decode (bs l) p=dr (l.drop p):=by
 rw[Lib.decode_at,tN,aM,ah];simp only[AW,fY,dU]
theorem Ii(s:ByteArray)(w:World)(hs:s.size<=307200000)(hT:up w) :
  Calls prog 208 #[.string s] w fun e w'=>gU w 3 (ed (runes (kJ (ls s)))) e w':=by
 obtain⟨i0,hi0,hz0,hz1,hz2⟩:=info_parts DV;have kb:=run_bytes_of_string (P:=prog) w 9 50 5 s underlying9 underlying50 underlying5;obtain⟨cp,hcp⟩:=az (grownCap w s.size 0 5);have hcp1:s.size<=cp:=by rw[hcp];exact grownCap_ge _ _ _ _
 have hcp2:cp<=maxLen:=by rw[hcp];exact grownCap_le_maxLen _ _ _ _ (by unfold maxLen;omega)
 rw[<-hcp]at kb;clear hcp;obtain⟨hat,hbw,hsz⟩:=LD w s cp 5 ((bytesRow s cp).size,(bytesRow s cp).size+1)
 have hsl:Sl (w.heap.size+1) (w.alloc (.cells (bytesRow s cp) 5 ((bytesRow s cp).size,(bytesRow s cp).size+1))).drew (.slice (some ⟨w.heap.size,0,none⟩) s.size cp) (Lib.byteCells (ls s)) :=
  ⟨cp,by rw[Lib.byteCells_length,fx];exact hcp1,hcp2,.inr ⟨_,0,by omega,by rw[Lib.byteCells_length,fx],hat⟩⟩
 rw[<-hsz]at hsl;have hd:=vF (ls s) _ _ hsl (by rw[fx];omega) (hT.below hbw);have hdl:=oD _ (ls s) (af _);rw[fx]at hdl;obtain⟨D,hD⟩:=az (kJ (ls s));rw[<-hD]at hd hdl ⊢;clear hD;obtain⟨T,Uo⟩:=az (runes D);rw[<-Uo];have UX:=h_ Uo;clear Uo;have HD:=h_ hd;clear hd;have HB:=h_ hbw;clear hbw;have HZ:=h_ hsz;clear hsz hsl hat hT;go_enter func208,ntmps208
 go_wp2_with (go_at_call 20;refine(HD.out).mono ?_;rintro e w1 ⟨rfl,hb1⟩;have HB1:=h_ hb1;clear hb1)
 have a4v:Below w.heap.size w w1:=(HB.out).trans ((HB1.out).mono (by have:=HZ.out;omega));have a2K:=h_ a4v;clear a4v;have DL:(bs D).size=D.length:=aM D;have OF:=h_ DL;clear DL
 go_loopw [3] (fun out wr=>∃ (p:Nat) (acc:List Int),p<=D.length∧wr.heap[w1.heap.size]? = some (.stringIter (bs D) p)∧wr.ownsRow (w1.heap.size+1) 3 1 out acc.length (ed acc) ∧
   acc++runes (D.drop p)=T∧acc.length<=p∧w1.heap.size<wr.heap.size∧Below w1.heap.size w1 wr) (fun _ wr=>D.length-wr.iterPos w1.heap.size)
 case atStart=>exact⟨0,[],by omega,World.iter_heap _ _ _,⟨by simp,.inl ⟨rfl,rfl⟩⟩,by simpa using UX.out.symm,by simp,by simp[World.iter],(Below.refl _ _).alloc (af _) _⟩
 case round =>
  obtain⟨p,acc,hp,hit,hown,hacc,hal,hwz,hbel⟩:=hrel;have HI:=h_ hit;clear hit;have HO:=h_ hown;clear hown;have HC:=h_ hacc;clear hacc;have mW:=h_ hbel;clear hbel;by_cases hlt:p<D.length
  ·have hnx:∀ ty,(Instr.next (.pointer (some ⟨w1.heap.size,0,none⟩)) true ty).run prog wr=_:=fun ty=>Lib.run_next_any_at wr w1.heap.size (bs D) p ty HI.out (by rw[OF.out];exact hlt)
   have hdd:=tM D p
   obtain⟨x,r,hx⟩:∃ x r,D.drop p=x::r:=by
    cases h:D.drop p with
    |nil=>have:=congrArg List.length h;simp at this;omega
    |cons x r=>exact⟨x,r,rfl⟩
   have hn:=oF x r;have hr1:=Gk (x::r);have hlen:r.length+1=D.length-p:=by have:=congrArg List.length hx;simp at this;omega
   have hc:=HC.out;rw[hx,xD]at hc;rw[hdd,hx]at hnx;have hdrop:(x::r).drop (dr (x::r)).2=D.drop (p+(dr (x::r)).2):=by rw[<-hx,rh]
   rw[hdrop]at hc;obtain⟨rn,sz,hD⟩:∃ rn sz,dr (x::r)=(rn,sz):=⟨_,_,rfl⟩;rw[hD]at hnx hn hr1 hc;simp only at hnx hn hr1 hc;clear hD hdrop hdd;have Oa:=h_ hc;clear hc hx;obtain⟨hn1,hn2⟩:=hn;have JP:p+sz<=D.length:=by omega
   clear hn2 hlen;have QO:=Lib.iterAt_heap wr w1.heap.size (bs D) p (p+sz) HI.out;have hIS:=Lib.iterAt_size wr w1.heap.size (bs D) (p+sz);have hOA:=ownsRow_iterAt HO.out (k:=w1.heap.size) (bO _) (bs D) (p+sz);have JJ:=Lib.below_iterAt (mW.out) (k:=w1.heap.size) (af _) (bs D) (p+sz);obtain⟨wi,hwi⟩:=az (wr.iterAt w1.heap.size (bs D) (p+sz));rw[<-hwi]at QO hIS hOA JJ hnx;have hpos:wr.iterPos w1.heap.size=p:=iterPos_of HI.out;have HWI:=h_ hwi;clear hwi;have Co:=h_ QO;clear QO;have HIS:=h_ hIS;clear hIS;have Lh:=h_ hOA;clear hOA;have vj:=h_ JJ;clear JJ;have Li:=h_ hpos;clear hpos;have hbase:w1.heap.size+1<=wi.heap.size:=by have:=HIS.out;omega
   go_wp2_with (at_builtin;go_must (refine eO rfl (.tmp 13) (.tmp 16) _ rfl (w1.heap.size+1) 3 i0 _ 8 underlying200 hi0 hz0 hz1 hz2 rfl _ _ acc.length (ed acc) rfl Lh.out (.int .i64 rn) rfl rfl (by omega) (by omega) hbase ?_);intro v2 w2 hown2 hw2 hb2;have fg:=h_ hown2;clear hown2;have HB2:=h_ hb2;clear hb2)
   go_roundw
   case rel =>
    have hb2:=HB2.out;refine⟨p+sz,acc++[(rn:Int)],JP,(hb2.block _ (by omega)).trans Co.out,?_,?_,?_,by omega,(vj.out).trans (hb2.mono (by omega))⟩
    ·have:=fg.out
     rw[ae,e7]
     simpa[ed]using this
    ·rw[aT];exact Oa.out
    rw[ae,e7];omega
   case measure =>
    have e2:w2.iterPos w1.heap.size=p+sz:=iterPos_of (((HB2.out).block _ (by omega)).trans Co.out);rw[e2,Li.out];omega
  have hnx:∀ ty,(Instr.next (.pointer (some ⟨w1.heap.size,0,none⟩)) true ty).run prog wr=_:=fun ty=>Lib.run_next_end_at wr w1.heap.size (bs D) p ty HI.out (by rw[OF.out];exact hlt)
  go_wp2
  go_ret;have ho:=HO.out;have hc:=HC.out;rw[bB (by omega),Nu,aG]at hc;rw[hc]at ho;have hb1:=(a2K.out).size;exact gU.mk ho (by omega) ((a2K.out).trans ((mW.out).mono hb1))
end Go.Proofs.YtmndlfglgcioeaaGreatDoor
