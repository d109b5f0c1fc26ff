/-
  Parts.
-/
import Derived.Test.YtfocdbjceedagaaGreatDoorCae
set_option linter.unusedVariables false
set_option linter.unusedSimpArgs false
set_option maxHeartbeats 8000000
set_option maxRecDepth 100000
namespace Go.Proofs.YtfocdbjceedagaaGreatDoor
open Tryz
section
open Go Go.RowKit Go.Shelf
variable{s:Bw}{B b f k kb n sb:Nat}{w w0:Wd}
def a4m :ByteArray:=⟨#[62,46,47,63,44,55,33,41,57,12,59]⟩
def signsB :ByteArray:=⟨#[32,44,39,45,46]⟩
def signedB :ByteArray:=⟨#[0,2,4,36,50]⟩
def a6r (s:Bw)(k:Nat):Option Nat:=wordsL.findIdx? λx=>Lib.hasPrefix ((s.data.toList.drop k).take (s.size-k)) x.data.toList
def a4u (s:Bw)(k:Nat):Bool:=decide (0<k)&&(decide (48<=(s[k-1]!).toNat)&&decide ((s[k-1]!).toNat<=57))
def a5m (c:Nat):Int:=Lib.indexByte signsB.data.toList c.toUInt8
def cellAt (af:Bool)(c:Nat):List UInt8 :=
 if 97<=c/\c<=122 then(if af&&decide (c<=106)then [48]else [])++[lettersB[c-97]!]
 else if 65<=c/\c<=90 then [32,lettersB[c-65]!]
 else if 48<=c/\c<=57 then(if af then []else [60])++[lettersB[(c-48+9) % 10]!]
 else if 0<=a5m c then [signedB[(a5m c).toNat]!]
 else [8,lettersB[c / 16]!,lettersB[c % 16]!]
def a3g (s:Bw):Nat->Nat->List UInt8->List UInt8
 |0,_,l=>l
 |f+1,k,l=>if k<s.size then(match a6r s k with
   |some n=>a3g s f (k+(wordsL[n]!).size) (l++[a4m[n]!])
   |none=>a3g s f (k+1) (l++cellAt (a4u s k) (s[k]!).toNat))else l
def a4v (s:Bw):ByteArray×Int:=if a6h s then(⟨(a3g s s.size 0 []).toArray⟩,0)else(⟨#[]⟩,40)
theorem b5j {l:List UInt8}(h:s.size<=k):a3g s f k l=l:=by
 cases f with
 |zero=>rfl
 |succ f=>unfold a3g;rw[if_neg oM]
theorem b2w {l:List UInt8}(h:k<s.size)(hw:a6r s k=some n):a3g s (f+1) k l=a3g s f (k+(wordsL[n]!).size) (l++[a4m[n]!]):=by
 conv=>lhs;unfold a3g
 rw[if_pos h,hw]
theorem b2x {l:List UInt8}(h:k<s.size)(hw:a6r s k=none):a3g s (f+1) k l=a3g s f (k+1) (l++cellAt (a4u s k) (s[k]!).toNat):=by
 conv=>lhs;unfold a3g
 rw[if_pos h,hw]
theorem b9j (h:a6r s k=some n):n<11:=(List.findIdx?_eq_some_iff_getElem.1 h).1
theorem c6u (s:Bw)(k sb kb:Nat)(w:Wd)(iB:k<s.size)(hl:s.size<=1000000)(hs:w.cell? ⟨sb,0,none⟩=some (.string s))(hk:w.cell? ⟨kb,0,none⟩=some (.int .i64 k)):
 Calls prog 114 #[.slice (some ⟨w.heap.size,0,none⟩) 11 11,.func (.func 116) #[] #[.pointer (some ⟨sb,0,none⟩),.pointer (some ⟨kb,0,none⟩)]] (w.alloc (.cells a2w 9)) λe w'=>e= .returned (.int .i64 (a8n (a6r s k)))/\∃q,w'=(w.alloc (.cells a2w 9)).drewN q:=by
 have hc:∀j,j<wordsL.length->(w.alloc (.cells a2w 9)).cell? ⟨w.heap.size,0+j,none⟩=some (Value.string wordsL[j]!):=by
  exact yek
 have hp:PredAt prog 116 #[.pointer (some ⟨sb,0,none⟩),.pointer (some ⟨kb,0,none⟩)] Value.string (λx=>Lib.hasPrefix ((s.data.toList.drop k).take (s.size-k)) x.data.toList) (w.alloc (.cells a2w 9)):=by
  exact ycr
 refine(Tryz.slices_IndexFunc_f114 Value.string (λx=>Lib.hasPrefix ((s.data.toList.drop k).take (s.size-k)) x.data.toList) 116 _ (enters_of func116 zM rfl) w.heap.size 0 11 11 wordsL _ hp jM jM hc).mono ?_;rintro e w'⟨rfl,h⟩;refine⟨?_,h⟩;rw[show wordsL.take 11=wordsL from rfl,a8x];rfl
theorem BW.two {k:Int}{l:List UInt8}(h:BW B sb b kb s k l w0 w)(c:UInt8)(n:Nat)(hn:c.toNat=n)(hl:l.length+1<=140737488355328):
 Calls prog 118 #[.pointer (some ⟨b,0,none⟩),.int .u8 n] w λe w'=>e= .returned .nilIface/\BW B sb b kb s k (l++[c]) w0 w' :=
 h.byte' c n (by rw[hn]) hl
theorem BW.setk {k:Int}{l:List UInt8}(h:BW B sb b kb s k l w0 w)(k':Int):BW B sb b kb s k' l w0 (w.setCell ⟨kb,0,none⟩ (.int .i64 k')) where
 below:=h.below.setCell (p:=⟨kb,0,none⟩) h.kB _
 sbk:=by rw[Below.heap_setCell _ _ _ _ h.nek];exact h.sbk
 kbk:=by
  unfold World.setCell;simp[Array.getElem?_modify,h.kbk]
 bld:=by
  have key:∀p,Lib.BuilderAtF 178 5 B b p (Lib.byteCells l) w->Lib.BuilderAtF 178 5 B b p (Lib.byteCells l) (w.setCell ⟨kb,0,none⟩ (.int .i64 k')):=by
   rintro p⟨hB,v,hb,aj,av⟩;refine⟨hB,v,by rw[Below.heap_setCell _ _ _ _ (λe=>h.neb e.symm)];exact hb,?_,av⟩;refine⟨aj.1,aj.2.imp id ?_⟩;rintro⟨g,cap,cur,fz,rfl,h1,h2,h3⟩;refine⟨g,cap,cur,fz,rfl,h1,?_,h3⟩;rw[Below.heap_setCell _ _ _ _ (λe=>by subst e;rw[h.kbk]at h2;cases h2)];exact h2
  exact h.bld.imp (key _) (key _)
 kB:=h.kB
 neb:=h.neb
 nes:=h.nes
 nek:=h.nek
theorem c5k (h:n<11):2<=(wordsL[n]!).size/\(wordsL[n]!).size<=4:=by
 match n,h with
 |0,_=>decide
 |1,_=>decide
 |2,_=>decide
 |3,_=>decide
 |4,_=>decide
 |5,_=>decide
 |6,_=>decide
 |7,_=>decide
 |8,_=>decide
 |9,_=>decide
 |10,_=>decide
theorem b9k (h:n<11):a2w[n]? =some (.string wordsL[n]!):=by
 match n,h with
 |0,_=>rfl
 |1,_=>rfl
 |2,_=>rfl
 |3,_=>rfl
 |4,_=>rfl
 |5,_=>rfl
 |6,_=>rfl
 |7,_=>rfl
 |8,_=>rfl
 |9,_=>rfl
 |10,_=>rfl
theorem d8b {c:Nat}(hc:c<128)(h:0<=a5m c):(a5m c).toNat<5:=by
 have:∀c:Fin 128,(a5m c.1).toNat<5:=by decide +kernel
 exact this ⟨c,hc⟩
theorem c9x (s:Bw)(hl:s.size<=1000)(w:Wd):Zc prog 64 #[.string s] w (.tuple #[.string (a4v s).1,.int .i64 (a4v s).2]):=by
 unfold a4v
 cases hrt:a6h s with
 |false =>
  have hR:=b9i s oM;rw[hrt]at hR;clear hrt;go_enter func64,ntmps64;go_wp2_with (go_at_call 113;refine(hR _).mono ?_;rintro e w'⟨rfl,al⟩;obtain⟨p,rfl⟩:=a0c al;clear al);go_ret2;exact⟨rfl,zC⟩
 |true =>
 have hR:=b9i s oM;rw[hrt]at hR;replace hrt:=Lib.hid hrt;obtain⟨out,aP⟩:=zE (a3g s s.size 0 []);simp only[if_true];rw[aP];replace aP:=Lib.hid aP;go_enter func64,ntmps64;go_wp2_with (first
  |(go_at_call 113;refine(hR _).mono ?_;rintro e w'⟨rfl,al⟩;obtain⟨p,rfl⟩:=a0c al;clear al))
 clear hR;have hB:=BW.start w s p;obtain⟨W,hW⟩:=zE (((((w.alloc (.cells #[.string s] 9)).growBy p).alloc (.cells #[.pointer none,.slice none 0 0] 178)).alloc (.cells #[.int .i64 0] 3)));obtain⟨b,hb⟩:=zE (w.heap.size+1+p.objs.size);rw[hW]at hB ⊢;rw[hb]at hB ⊢;obtain⟨kb,lQ⟩:=zE (b+1);obtain⟨sb,ni⟩:=zE w.heap.size;rw[lQ]at hB ⊢;rw[ni]at hB ⊢;replace ni:=Lib.hid ni;clear lQ hb hW;go_loopw [5] (λv wr=>∃(n f kb:Nat) (l:List UInt8),v= .pointer (some ⟨kb,0,none⟩)/\n<=s.size+5/\s.size-n<=f/\l.length<=3*n/\Hid (a3g s f n l=out)/\BW sb sb b kb s n l w wr) (λv wr=>s.size+5-kOf v wr)
 case atStart=>exact⟨0,s.size,kb,[],rfl,Nat.zero_le _,oM,Nat.zero_le _,aP,hB⟩
 case round =>
  clear hB aP;obtain⟨n,f,kb,l,rfl,hn,hf,im,hO,hB⟩:=hrel;have dN:=hB.cs;have aB:=hB.ck;have Cp:=hB.fk;have Bh:=Lib.hid (hB.kOf);by_cases ag:n<s.size
  ·have aA:(n:Int)<(s.size:Int):=oM
   obtain⟨f,rfl⟩:∃f',f=f'+1:=⟨f-1,oM⟩;have ox:=c6u s n sb kb
   cases hw:a6r s n with
   |some m =>
    have hm:=b9j hw;obtain⟨wl,iR⟩:=zE ((wordsL[m]!).size);obtain⟨w2,w4⟩:=c5k hm;rw[iR]at w2 w4;have aq:Hid (a3g s f (n+wl) (l++[a4m[m]!])=out):=by
     rw[<-iR,<-b2w ag hw];exact hO.out
    rw[hw]at ox;replace ox:∀w:World,n<s.size->s.size<=1000000->w.cell? ⟨sb,0,none⟩=some (.string s)->w.cell? ⟨kb,0,none⟩=some (.int .i64 n)->Calls _ _ _ _ λe w'=>e= .returned (.int .i64 (m:Nat))/\_:=ox
    obtain⟨sh,bO⟩:=zE ((a4m[m]!).toNat);have tj:(m:Int)<11:=oM;have om:(0:Int)<=(m:Int):=oM;clear hw hO;go_wp2_with (first
     |(go_at_call 115;refine(a6o _).mono ?_;rintro e w'⟨rfl,rfl⟩)
     |(go_at_call 114;refine(ox _ ag oM dN aB).mono ?_;rintro e w'⟨rfl,q,rfl⟩)
     |(refine a0k qM 9 _ _ qM a4m .i64 (m:Nat) qM qM underlying9 (sh:Nat) oM (by show(m:Int)<11;omega) (by rw[<-bO,getElem!_pos a4m m (by show m<11;omega)];rfl) ?_)
     |(go_at_call 118;with_reducible refine(BW.two ((hB.alloc _).drewN q) (a4m[m]!) sh bO oM).mono ?_;rintro e w1⟨rfl,dq⟩;have uL:=dq.cs;have LA:=dq.ck;have LB:=dq.fk))
    obtain⟨wd,Cz⟩:=zE (wordsL[m]!);rw[Cz]at iR;have pr:∀W:World,(W.alloc (.cells a2w 9)).cell? ⟨W.heap.size,m,none⟩=some (.string wd):=λW=>((Blk.new W a2w 9).cell m).trans ((b9k hm).trans (by rw[Cz]))
    have xy:=pr w1.drew;rw[show w1.drew.heap.size=w1.heap.size from rfl]at xy;have Ls:(wd.size:Int)=(wl:Int):=oM;have gB:IntKind.i64.wrap ((wl:Int)-1)=(wl:Int)-1:=a1i oM oM;have mC:IntKind.i64.wrap ((n:Int)+((wl:Int)-1))=(n:Int)+((wl:Int)-1):=a1i oM oM;clear Cz ox dN aB Cp hB bO;go_region_law (first
     |(go_simp;go_at_call 115;refine(a6o _).mono ?_;rintro e w'⟨rfl,rfl⟩))
    all_goals (
     obtain⟨W2,bV⟩:=zE (((w1.setCell ⟨kb,0,none⟩ (.int .i64 ((n:Int)+((wl:Int)-1)))).alloc (.cells a2w 9)).drew);have aG:BW sb sb b kb s ((n:Int)+((wl:Int)-1)) (l++[a4m[m]!]) w W2:=by rw[<-bV];exact((dq.setk _).alloc _).drewN 1
     rw[bV];clear bV dq uL LA LB pr xy;have Cu:=aG.ck;have Cv:=aG.fk;have ma:IntKind.i64.wrap ((n:Int)+((wl:Int)-1)+1)=((n+wl:Nat):Int):=by rw[a1i oM oM];omega
     try go_simp
     go_wp2_with fail;refine⟨⟨n+wl,f,W2.heap.size,_,rfl,oM,oM,by rw[List.length_append];simp;omega,aq,aG.newk _⟩,?_⟩;rw[(aG.newk _).kOf,Bh.out];simp;omega)
   |none =>
    obtain⟨u,hu⟩:=zE (s[n]'ag);obtain⟨c,hc⟩:=zE u.toNat;have Fs:(s[n]!).toNat=c:=by rw[getElem!_pos s n ag,hu,hc]
    obtain⟨af,lY⟩:=zE (a4u s n);obtain⟨cs,qo⟩:=zE (cellAt af c);have aq:Hid (a3g s f (n+1) (l++cs)=out):=by
     rw[<-qo,<-lY,<-Fs,<-b2x ag hw];exact hO.out
    have CA:c<128:=by
     have:=b2u hrt.out n ag;rw[hu]at this;unfold okB at this;rw[hc]at this;simp only[Bool.and_eq_true,decide_eq_true_eq]at this;omega
    rw[hw]at ox;replace ox:∀w:World,n<s.size->s.size<=1000000->w.cell? ⟨sb,0,none⟩=some (.string s)->w.cell? ⟨kb,0,none⟩=some (.int .i64 n)->Calls _ _ _ _ λe w'=>e= .returned (.int .i64 (-1))/\_:=ox
    have aE:IntKind.i64.wrap ((n:Int)+1)=((n+1:Nat):Int):=by rw[a1i oM oM];omega
    obtain⟨sg,oz⟩:=zE (a5m c);have CB:∀w:World,Calls prog 120 #[.string ⟨#[32,44,39,45,46]⟩,.int .u8 (c:Nat)] w λe w'=>e= .returned (.int .i64 sg)/\w'=w:=λw=>by
     have:=Tryz.strings_IndexByte ⟨#[32,44,39,45,46]⟩ (c:Nat) w;rw[<-oz];exact this
    have Hd:0<=sg->sg.toNat<5:=λh=>by rw[<-oz]at h ⊢;exact d8b CA h
    have wE:Hid (BW sb sb b kb s n l w wr):=hB;replace qo:=Lib.hid qo;replace lY:=Lib.hid lY;replace oz:=Lib.hid oz;clear hw hO Fs hB;go_upto_region 12 with(first
     |(go_at_call 115;refine(a6o _).mono ?_;rintro e w'⟨rfl,rfl⟩)
     |(go_at_call 114;refine(ox _ ag oM dN aB).mono ?_;rintro e w'⟨rfl,q,rfl⟩)
     |(refine a0k qM 9 _ _ qM s .i64 (n:Nat) qM qM underlying9 (c:Nat) oM aA (by rw[<-hc,<-hu];rfl) ?_))
    obtain⟨W2,bV⟩:=zE ((wr.alloc (.cells a2w 9)).drewN q);have aG:BW sb sb b kb s n l w W2:=by rw[<-bV];exact(wE.out.alloc _).drewN q
    rw[bV];clear bV dN aB Cp ox wE;have rR:=aG.cs;have Cu:=aG.ck;have Cv:=aG.fk;go_cut [8] (λv8 wx=>v8= .bool af/\BW sb sb b kb s n l w wx)
    case first =>
     by_cases fE:n=0
     ·subst fE
      have tG:af=false:=by rw[<-lY.out];unfold a4u;simp
      subst tG;go_wp2_with fail;go_meet;exact⟨rfl,aG⟩
     ·have eP:0<(n:Int):=oM
      have qa:IntKind.i64.wrap ((n:Int)-1)=(n:Int)-1:=a1i oM oM;obtain⟨c0,fT⟩:=zE ((s[n-1]!).toNat);have tG:(decide ((48:Int)<=(c0:Nat))&&decide ((c0:Int)<=57))=af:=by
       rw[<-lY.out];unfold a4u;rw[fT,decide_eq_true (show 0<n by omega),Bool.true_and];congr 1 <;> exact decide_eq_decide.2 oM
      have jQ:=a5f c0 af tG;have eK:((s[n-1]'(by omega)).toNat:Int)=(c0:Nat):=by rw[<-fT,getElem!_pos s (n-1) oM]
      clear fT tG;go_wp2_with (first
       |(refine a0k qM 9 _ _ qM s .i64 ((n:Int)-1) qM qM underlying9 (c0:Nat) oM oM (by have he:((n:Int)-1).toNat=n-1:=oM;simp only[he];exact eK) ?_)
       |(go_at_call 119;with_reducible refine(jQ _).mono ?_;rintro e w'⟨rfl,rfl⟩))
      go_meet;exact⟨rfl,aG⟩
    case rest =>
     obtain⟨rfl,aN⟩:=hcut;clear aG rR Cu Cv;have rR:=aN.cs;have Cu:=aN.ck;have Cv:=aN.fk;go_upto_block 2 with(first
      |(go_at_call 120;refine(CB _).mono ?_;rintro e w'⟨rfl,rfl⟩))
     clear CB;obtain⟨cs,rfl⟩:∃x,x=cs:=⟨_,rfl⟩;have bg:=qo.out;unfold cellAt at bg;by_cases hA:97<=c/\c<=122
     ·rw[if_pos hA]at bg
      obtain⟨A0,A1⟩:=hA;have i0:(97:Int)<=(c:Nat):=oM;have i1:((c:Nat):Int)<=122:=oM;obtain⟨L,hL⟩:=zE (lettersB[c-97]!);rw[hL]at bg;obtain⟨ln,iN⟩:=zE L.toNat;have OE:IntKind.u8.wrap ((c:Int)-97)=(c:Int)-97:=by simp[IntKind.wrap,IntKind.bits,IntKind.signed];omega
      have bj:∀hh:(((c:Int)-97).toNat)<lettersB.size,((lettersB[(((c:Int)-97).toNat)]'hh).toNat:Int)=(ln:Nat):=λhh=>by
       have he:((c:Int)-97).toNat=c-97:=oM;simp only[he]at hh ⊢;rw[<-iN,<-hL,getElem!_pos lettersB (c-97) hh]
      have Ct:(lettersB.size:Int)=26:=rfl;by_cases hj:(af&&decide (c<=106))=true
      ·rw[if_pos hj]at bg
       subst bg;rw[Bool.and_eq_true,decide_eq_true_eq]at hj;obtain⟨rfl,j1⟩:=hj;have j2:((c:Nat):Int)<=106:=oM;have kh:([48]++[L]:List UInt8).length<=3:=by simp
       rw[<-List.append_assoc]at aq;have h48:=aN.byte' (48:UInt8) 48 rfl oM;go_wp2_with (first
        |(go_at_call 118;with_reducible refine h48.mono ?_;rintro e w4⟨rfl,bZ⟩;have GN:=bZ.cs;have Fe:=bZ.ck;have Ff:=bZ.fk)
        |(refine a0k qM 9 _ _ qM lettersB .u8 ((c:Int)-97) qM qM underlying9 (ln:Nat) oM oM (bj _) ?_)
        |(go_at_call 118;with_reducible refine(BW.two bZ L ln iN uM).mono ?_;rintro e w9⟨rfl,cn⟩;have Af:=cn.ck;have Ag:=cn.fk)
        |(go_at_call 119;with_reducible refine(jQ _).mono ?_;rintro e w'⟨rfl,rfl⟩))
       exact yah
      ·rw[if_neg hj]at bg
       subst bg;have kh:([]++[L]:List UInt8).length<=3:=by simp
       rw[List.nil_append]at aq kh
       cases af with
       |false =>
        exact ycy
       |true =>
        have j2:¬((c:Nat):Int)<=106:=λh=>hj uM
        exact ycy
     ·rw[if_neg hA]at bg
      by_cases hB:65<=c/\c<=90
      ·rw[if_pos hB]at bg
       obtain⟨A0,A1⟩:=hB;have i9:¬(97:Int)<=(c:Nat):=oM;have i0:(65:Int)<=(c:Nat):=oM;have i1:((c:Nat):Int)<=90:=oM;obtain⟨L,hL⟩:=zE (lettersB[c-65]!);rw[hL]at bg;obtain⟨ln,iN⟩:=zE L.toNat;have OE:IntKind.u8.wrap ((c:Int)-65)=(c:Int)-65:=by simp[IntKind.wrap,IntKind.bits,IntKind.signed];omega
       have bj:∀hh:(((c:Int)-65).toNat)<lettersB.size,((lettersB[(((c:Int)-65).toNat)]'hh).toNat:Int)=(ln:Nat):=λhh=>by
        have he:((c:Int)-65).toNat=c-65:=oM;simp only[he]at hh ⊢;rw[<-iN,<-hL,getElem!_pos lettersB (c-65) hh]
       have Ct:(lettersB.size:Int)=26:=rfl;subst bg;have kh:([32,L]:List UInt8).length<=3:=by simp
       rw[show([32,L]:List UInt8)=[32]++[L]from rfl,<-List.append_assoc]at aq;have h48:=aN.byte' (32:UInt8) 32 rfl oM;go_wp2_with (first
        |(go_at_call 118;with_reducible refine h48.mono ?_;rintro e w4⟨rfl,bZ⟩;have GN:=bZ.cs;have Fe:=bZ.ck;have Ff:=bZ.fk)
        |(refine a0k qM 9 _ _ qM lettersB .u8 ((c:Int)-65) qM qM underlying9 (ln:Nat) oM oM (bj _) ?_)
        |(go_at_call 118;with_reducible refine(BW.two bZ L ln iN uM).mono ?_;rintro e w9⟨rfl,cn⟩;have Af:=cn.ck;have Ag:=cn.fk)
        |(go_at_call 119;with_reducible refine(jQ _).mono ?_;rintro e w'⟨rfl,rfl⟩))
       exact yah
      ·rw[if_neg hB]at bg
       by_cases hC:48<=c/\c<=57
       ·rw[if_pos hC]at bg
        obtain⟨A0,A1⟩:=hC;have i9:¬(97:Int)<=(c:Nat):=oM;have i8:¬(65:Int)<=(c:Nat):=oM;have i0:(48:Int)<=(c:Nat):=oM;have i1:((c:Nat):Int)<=57:=oM;have jQ:=a5f c true uM;obtain⟨L,hL⟩:=zE (lettersB[(c-48+9) % 10]!);rw[hL]at bg;obtain⟨ln,iN⟩:=zE L.toNat;have Ct:(lettersB.size:Int)=26:=rfl;have bj:∀hh:((((c:Int)-48+9) % 10).toNat)<lettersB.size,((lettersB[((((c:Int)-48+9) % 10).toNat)]'hh).toNat:Int)=(ln:Nat):=λhh=>by
         have he:(((c:Int)-48+9) % 10).toNat=(c-48+9) % 10:=oM;simp only[he]at hh ⊢;rw[<-iN,<-hL,getElem!_pos lettersB ((c-48+9) % 10) hh]
        cases af with
        |true =>
         simp only[if_true,List.nil_append]at bg;subst bg;have kh:([L]:List UInt8).length<=3:=by simp
         go_wp2_with (first
          |(refine a0k qM 9 _ _ qM lettersB .u8 (((c:Int)-48+9) % 10) qM qM underlying9 (ln:Nat) oM oM (bj _) ?_)
          |(go_at_call 118;with_reducible refine(BW.two aN L ln iN oM).mono ?_;rintro e w9⟨rfl,cn⟩;have Af:=cn.ck;have Ag:=cn.fk)
          |(go_at_call 119;with_reducible refine(jQ _).mono ?_;rintro e w'⟨rfl,rfl⟩))
         exact yah
        |false =>
         simp only[Bool.false_eq_true,if_false]at bg;subst bg;have kh:([60]++[L]:List UInt8).length<=3:=by simp
         rw[<-List.append_assoc]at aq;have h48:=aN.byte' (60:UInt8) 60 rfl oM;go_wp2_with (first
          |(go_at_call 118;with_reducible refine h48.mono ?_;rintro e w4⟨rfl,bZ⟩;have GN:=bZ.cs;have Fe:=bZ.ck;have Ff:=bZ.fk)
          |(refine a0k qM 9 _ _ qM lettersB .u8 (((c:Int)-48+9) % 10) qM qM underlying9 (ln:Nat) oM oM (bj _) ?_)
          |(go_at_call 118;with_reducible refine(BW.two bZ L ln iN uM).mono ?_;rintro e w9⟨rfl,cn⟩;have Af:=cn.ck;have Ag:=cn.fk)
          |(go_at_call 119;with_reducible refine(jQ _).mono ?_;rintro e w'⟨rfl,rfl⟩))
         exact yah
       ·rw[if_neg hC]at bg
        have i9:¬((97:Int)<=(c:Nat)/\((c:Nat):Int)<=122):=oM;have i8:¬((65:Int)<=(c:Nat)/\((c:Nat):Int)<=90):=oM;have jQ:=a5f c false uM;rw[oz.out]at bg;by_cases hS:0<=sg
        ·rw[if_pos hS]at bg
         obtain⟨sn,rfl⟩:=Int.eq_ofNat_of_zero_le hS;have Ft:=Hd hS;rw[Int.toNat_natCast]at bg Ft;obtain⟨L,hL⟩:=zE (signedB[sn]!);rw[hL]at bg;obtain⟨ln,iN⟩:=zE L.toNat;subst bg;have kh:([L]:List UInt8).length<=3:=by simp
         have Ct:(signedB.size:Int)=5:=rfl;have bj:∀hh:((sn:Int).toNat)<signedB.size,((signedB[((sn:Int).toNat)]'hh).toNat:Int)=(ln:Nat):=λhh=>by
          rw[<-iN,<-hL,getElem!_pos signedB sn (by simpa using hh)];rfl
         clear i9 i8;rcases(show c<=64\/(91<=c/\c<=96)\/123<=c by omega)with h9|⟨h9,h8'⟩|h9
         ·have t1:¬(97:Int)<=(c:Nat):=oM
          have t2:¬(65:Int)<=(c:Nat):=oM;exact ybi
         ·have t1:¬(97:Int)<=(c:Nat):=oM
          exact yjp
         ·have t1:(97:Int)<=(c:Nat):=oM
          have t4:¬((c:Nat):Int)<=122:=oM;exact yjp
        ·rw[if_neg hS]at bg
         have qp:¬0<=sg:=hS;obtain⟨L,hL⟩:=zE (lettersB[c / 16]!);obtain⟨L2,vn⟩:=zE (lettersB[c % 16]!);rw[hL,vn]at bg;obtain⟨ln,iN⟩:=zE L.toNat;obtain⟨GO,Bq⟩:=zE L2.toNat;subst bg;have kh:([8,L,L2]:List UInt8).length<=3:=by simp
         rw[show([8,L,L2]:List UInt8)=[8]++([L]++[L2])from rfl,<-List.append_assoc,<-List.append_assoc]at aq;have Ct:(lettersB.size:Int)=26:=rfl;have bj:∀hh:(((c:Int) / 16).toNat)<lettersB.size,((lettersB[(((c:Int) / 16).toNat)]'hh).toNat:Int)=(ln:Nat):=λhh=>by
          have he:((c:Int) / 16).toNat=c / 16:=oM;simp only[he]at hh ⊢;rw[<-iN,<-hL,getElem!_pos lettersB (c / 16) hh]
         have GP:∀hh:(((c:Int) % 16).toNat)<lettersB.size,((lettersB[(((c:Int) % 16).toNat)]'hh).toNat:Int)=(GO:Nat):=λhh=>by
          have he:((c:Int) % 16).toNat=c % 16:=oM;simp only[he]at hh ⊢;rw[<-Bq,<-vn,getElem!_pos lettersB (c % 16) hh]
         have h8:=aN.byte' (8:UInt8) 8 rfl oM;clear i9 i8;rcases(show c<=64\/(91<=c/\c<=96)\/123<=c by omega)with h9|⟨h9,h8'⟩|h9
         ·have t1:¬(97:Int)<=(c:Nat):=oM
          have t2:¬(65:Int)<=(c:Nat):=oM;exact yaq
         ·have t1:¬(97:Int)<=(c:Nat):=oM
          exact yjq
         ·have t1:(97:Int)<=(c:Nat):=oM
          have t4:¬((c:Nat):Int)<=122:=oM;exact yjq
  ·have aY:¬(n:Int)<(s.size:Int):=oM
   have ho:l=out:=by rw[<-hO.out,b5j oM]
   subst ho;go_wp2_with (first
    |(go_at_call 121;refine(Tryz.Builder_String_any_k sb b l _ hB.bld hB.le).mono ?_;rintro e w3⟨rfl,ku,aV,vl⟩))
   go_ret2;exact⟨rfl,by rw[ni.out];exact hB.below.trans aV⟩
end
end Go.Proofs.YtfocdbjceedagaaGreatDoor
