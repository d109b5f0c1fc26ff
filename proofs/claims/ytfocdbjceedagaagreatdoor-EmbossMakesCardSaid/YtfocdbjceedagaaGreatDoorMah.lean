/-
  Parts.
-/
import Derived.Test.YtfocdbjceedagaaGreatDoorMag
set_option linter.unusedVariables false
set_option linter.unusedSimpArgs false
set_option maxHeartbeats 8000000
set_option maxRecDepth 100000
namespace Go.Proofs.YtfocdbjceedagaaGreatDoor
open Tryz
section
open Go Go.RowKit Go.Shelf
attribute [local go_sem] Oper.semAt_some
variable{s:ByteArray}{B b f k kb n sb:Nat}{w w0:World}
def a4s :ByteArray:=⟨#[62,46,47,63,44,55,33,41,57,12,59]⟩
def signsB :ByteArray:=⟨#[32,44,39,45,46]⟩
def signedB :ByteArray:=⟨#[0,2,4,36,50]⟩
def a6h (s:ByteArray)(k:Nat):Option Nat:=wordsL.findIdx? λx=>Lib.hasPrefix ((s.data.toList.drop k).take (s.size-k)) x.data.toList
def a5r (s:ByteArray)(k:Nat):Bool:=decide (0<k)&&(decide (48<=(s[k-1]!).toNat)&&decide ((s[k-1]!).toNat<=57))
def a5b (c:Nat):Int:=Lib.indexByte signsB.data.toList c.toUInt8
def cellAt (af:Bool)(c:Nat):List UInt8 :=
 if 97<=c/\c<=122 then(if af&&decide (c<=106)then [48]else [])++[lettersB[c-97]!]
 else if 65<=c/\c<=90 then [32,lettersB[c-65]!]
 else if 48<=c/\c<=57 then(if af then []else [60])++[lettersB[(c-48+9) % 10]!]
 else if 0<=a5b c then [signedB[(a5b c).toNat]!]
 else [8,lettersB[c / 16]!,lettersB[c % 16]!]
def a3q (s:ByteArray):Nat->Nat->List UInt8->List UInt8
 |0,_,l=>l
 |f+1,k,l=>if k<s.size then(match a6h s k with
   |some n=>a3q s f (k+(wordsL[n]!).size) (l++[a4s[n]!])
   |none=>a3q s f (k+1) (l++cellAt (a5r s k) (s[k]!).toNat))else l
def a5s (s:ByteArray):ByteArray×Int:=if a5q s then(⟨(a3q s s.size 0 []).toArray⟩,0)else(⟨#[]⟩,40)
theorem b4l {l:List UInt8}(h:s.size<=k):a3q s f k l=l:=by
 cases f with
 |zero=>rfl
 |succ f=>unfold a3q;rw[if_neg oM]
theorem b2e {l:List UInt8}(h:k<s.size)(hw:a6h s k=some n):a3q s (f+1) k l=a3q s f (k+(wordsL[n]!).size) (l++[a4s[n]!]):=by
 conv=>lhs;unfold a3q
 rw[if_pos h,hw]
theorem b2f {l:List UInt8}(h:k<s.size)(hw:a6h s k=none):a3q s (f+1) k l=a3q s f (k+1) (l++cellAt (a5r s k) (s[k]!).toNat):=by
 conv=>lhs;unfold a3q
 rw[if_pos h,hw]
theorem b8o (h:a6h s k=some n):n<11:=(List.findIdx?_eq_some_iff_getElem.1 h).1
theorem c5q (s:ByteArray)(k sb kb:Nat)(w:World)(hk0:k<s.size)(hl:s.size<=1000000)(hs:w.cell? ⟨sb,0,none⟩=some (.string s))(hk:w.cell? ⟨kb,0,none⟩=some (.int .i64 k)):
 Calls prog 114 #[.slice (some ⟨w.heap.size,0,none⟩) 11 11,.func (.func 116) #[] #[.pointer (some ⟨sb,0,none⟩),.pointer (some ⟨kb,0,none⟩)]] (w.alloc (.cells a2m 9)) λe w'=>e= .returned (.int .i64 (b2b (a6h s k)))/\∃q,w'=(w.alloc (.cells a2m 9)).drewN q:=by
 have hc:∀j,j<wordsL.length->(w.alloc (.cells a2m 9)).cell? ⟨w.heap.size,0+j,none⟩=some (Value.string wordsL[j]!):=by
  exact yea
 have hp:PredAt prog 116 #[.pointer (some ⟨sb,0,none⟩),.pointer (some ⟨kb,0,none⟩)] Value.string (λx=>Lib.hasPrefix ((s.data.toList.drop k).take (s.size-k)) x.data.toList) (w.alloc (.cells a2m 9)):=by
  exact ycn
 refine(Tryz.slices_IndexFunc_f114 Value.string (λx=>Lib.hasPrefix ((s.data.toList.drop k).take (s.size-k)) x.data.toList) 116 _ (enters_of func116 zM rfl) w.heap.size 0 11 11 wordsL _ hp jM jM hc).mono ?_;rintro e w'⟨rfl,h⟩;refine⟨?_,h⟩;rw[show wordsL.take 11=wordsL from rfl,a8i];rfl
theorem BW.two {k:Int}{l:List UInt8}(h:BW B sb b kb s k l w0 w)(c:UInt8)(n:Nat)(hn:c.toNat=n)(hl:l.length+1<=140737488355328):
 Calls prog 118 #[.pointer (some ⟨b,0,none⟩),.int .u8 n] w λe w'=>e= .returned .nilIface/\BW B sb b kb s k (l++[c]) w0 w' :=
 h.byte' c n (by rw[hn]) hl
theorem BW.setk {k:Int}{l:List UInt8}(h:BW B sb b kb s k l w0 w)(k':Int):BW B sb b kb s k' l w0 (w.setCell ⟨kb,0,none⟩ (.int .i64 k')) where
 below:=h.below.setCell (p:=⟨kb,0,none⟩) h.kB _
 sbk:=by rw[Below.heap_setCell _ _ _ _ h.nek];exact h.sbk
 kbk:=by
  unfold World.setCell;simp[Array.getElem?_modify,h.kbk]
 bld:=by
  have key:∀p,Lib.BuilderAtF 178 5 B b p (Lib.byteCells l) w->Lib.BuilderAtF 178 5 B b p (Lib.byteCells l) (w.setCell ⟨kb,0,none⟩ (.int .i64 k')):=by
   rintro p⟨hB,v,hb,hown,hne⟩;refine⟨hB,v,by rw[Below.heap_setCell _ _ _ _ (λe=>h.neb e.symm)];exact hb,?_,hne⟩;refine⟨hown.1,hown.2.imp id ?_⟩;rintro⟨g,cap,cur,fz,rfl,h1,h2,h3⟩;refine⟨g,cap,cur,fz,rfl,h1,?_,h3⟩;rw[Below.heap_setCell _ _ _ _ (λe=>by subst e;rw[h.kbk]at h2;cases h2)];exact h2
  exact h.bld.imp (key _) (key _)
 kB:=h.kB
 neb:=h.neb
 nes:=h.nes
 nek:=h.nek
theorem c4l (h:n<11):2<=(wordsL[n]!).size/\(wordsL[n]!).size<=4:=by
 match n,h with
 |0,_=>decide
 |1,_=>decide
 |2,_=>decide
 |3,_=>decide
 |4,_=>decide
 |5,_=>decide
 |6,_=>decide
 |7,_=>decide
 |8,_=>decide
 |9,_=>decide
 |10,_=>decide
theorem b8p (h:n<11):a2m[n]? =some (.string wordsL[n]!):=by
 match n,h with
 |0,_=>rfl
 |1,_=>rfl
 |2,_=>rfl
 |3,_=>rfl
 |4,_=>rfl
 |5,_=>rfl
 |6,_=>rfl
 |7,_=>rfl
 |8,_=>rfl
 |9,_=>rfl
 |10,_=>rfl
theorem d5z {c:Nat}(hc:c<128)(h:0<=a5b c):(a5b c).toNat<5:=by
 have:∀c:Fin 128,(a5b c.1).toNat<5:=by decide +kernel
 exact this ⟨c,hc⟩
theorem c8q (s:ByteArray)(hl:s.size<=1000)(w:World):Calls prog 64 #[.string s] w λe w'=>e= .returned (.tuple #[.string (a5s s).1,.int .i64 (a5s s).2])/\Below w.heap.size w w':=by
 unfold a5s
 cases hrt:a5q s with
 |false =>
  have hR:=b8n s oM;rw[hrt]at hR;clear hrt;go_enter func64,ntmps64;go_wp2_with (go_at_call 113;refine(hR _).mono ?_;rintro e w'⟨rfl,hb_⟩;obtain⟨p,rfl⟩:=a0b hb_;clear hb_);go_ret2;exact⟨rfl,zC⟩
 |true =>
 have hR:=b8n s oM;rw[hrt]at hR;replace hrt:=Lib.hid hrt;obtain⟨out,hout⟩:=zE (a3q s s.size 0 []);simp only[if_true];rw[hout];replace hout:=Lib.hid hout;go_enter func64,ntmps64;go_wp2_with (first
  |(go_at_call 113;refine(hR _).mono ?_;rintro e w'⟨rfl,hb_⟩;obtain⟨p,rfl⟩:=a0b hb_;clear hb_))
 clear hR;have hB:=BW.start w s p;obtain⟨W,hW⟩:=zE (((((w.alloc (.cells #[.string s] 9)).growBy p).alloc (.cells #[.pointer none,.slice none 0 0] 178)).alloc (.cells #[.int .i64 0] 3)));obtain⟨b,hb⟩:=zE (w.heap.size+1+p.objs.size);rw[hW]at hB ⊢;rw[hb]at hB ⊢;obtain⟨kb,hkb⟩:=zE (b+1);obtain⟨sb,hsb⟩:=zE w.heap.size;rw[hkb]at hB ⊢;rw[hsb]at hB ⊢;replace hsb:=Lib.hid hsb;clear hkb hb hW;go_loopw [5] (λv wr=>∃(n f kb:Nat) (l:List UInt8),v= .pointer (some ⟨kb,0,none⟩)/\n<=s.size+5/\s.size-n<=f/\l.length<=3*n/\Hid (a3q s f n l=out)/\BW sb sb b kb s n l w wr) (λv wr=>s.size+5-kOf v wr)
 case atStart=>exact⟨0,s.size,kb,[],rfl,Nat.zero_le _,oM,Nat.zero_le _,hout,hB⟩
 case round =>
  clear hB hout;obtain⟨n,f,kb,l,rfl,hn,hf,hll,hO,hB⟩:=hrel;have hcs:=hB.cs;have hck:=hB.ck;have hfk:=hB.fk;have hkn:=Lib.hid (hB.kOf);by_cases hlt:n<s.size
  ·have hltI:(n:Int)<(s.size:Int):=oM
   obtain⟨f,rfl⟩:∃f',f=f'+1:=⟨f-1,oM⟩;have hix:=c5q s n sb kb
   cases hw:a6h s n with
   |some m =>
    have hm:=b8o hw;obtain⟨wl,hwl⟩:=zE ((wordsL[m]!).size);obtain⟨w2,w4⟩:=c4l hm;rw[hwl]at w2 w4;have hnext:Hid (a3q s f (n+wl) (l++[a4s[m]!])=out):=by
     rw[<-hwl,<-b2e hlt hw];exact hO.out
    rw[hw]at hix;replace hix:∀w:World,n<s.size->s.size<=1000000->w.cell? ⟨sb,0,none⟩=some (.string s)->w.cell? ⟨kb,0,none⟩=some (.int .i64 n)->Calls _ _ _ _ λe w'=>e= .returned (.int .i64 (m:Nat))/\_:=hix
    obtain⟨sh,hsh⟩:=zE ((a4s[m]!).toNat);have hmI:(m:Int)<11:=oM;have hm0:(0:Int)<=(m:Int):=oM;clear hw hO;go_wp2_with (first
     |(go_at_call 115;refine(a6d _).mono ?_;rintro e w'⟨rfl,rfl⟩)
     |(go_at_call 114;refine(hix _ hlt oM hcs hck).mono ?_;rintro e w'⟨rfl,q,rfl⟩)
     |(refine a0j qM 9 _ _ qM a4s .i64 (m:Nat) qM qM underlying9 (sh:Nat) oM (by show(m:Int)<11;omega) (by rw[<-hsh,getElem!_pos a4s m (by show m<11;omega)];rfl) ?_)
     |(go_at_call 118;with_reducible refine(BW.two ((hB.alloc _).drewN q) (a4s[m]!) sh hsh oM).mono ?_;rintro e w1⟨rfl,hB1⟩;have cs1:=hB1.cs;have ck1:=hB1.ck;have fk1:=hB1.fk))
    obtain⟨wd,hwd⟩:=zE (wordsL[m]!);rw[hwd]at hwl;have hwc:∀W:World,(W.alloc (.cells a2m 9)).cell? ⟨W.heap.size,m,none⟩=some (.string wd):=λW=>((Blk.new W a2m 9).cell m).trans ((b8p hm).trans (by rw[hwd]))
    have hwc1:=hwc w1.drew;rw[show w1.drew.heap.size=w1.heap.size from rfl]at hwc1;have hwI:(wd.size:Int)=(wl:Int):=oM;have hx1:IntKind.i64.wrap ((wl:Int)-1)=(wl:Int)-1:=a1m oM oM;have hx2:IntKind.i64.wrap ((n:Int)+((wl:Int)-1))=(n:Int)+((wl:Int)-1):=a1m oM oM;clear hwd hix hcs hck hfk hB hsh;go_region_law (first
     |(go_simp;go_at_call 115;refine(a6d _).mono ?_;rintro e w'⟨rfl,rfl⟩))
    all_goals (
     obtain⟨W2,hW2⟩:=zE (((w1.setCell ⟨kb,0,none⟩ (.int .i64 ((n:Int)+((wl:Int)-1)))).alloc (.cells a2m 9)).drew);have hB2:BW sb sb b kb s ((n:Int)+((wl:Int)-1)) (l++[a4s[m]!]) w W2:=by rw[<-hW2];exact((hB1.setk _).alloc _).drewN 1
     rw[hW2];clear hW2 hB1 cs1 ck1 fk1 hwc hwc1;have ck2:=hB2.ck;have fk2:=hB2.fk;have hx3:IntKind.i64.wrap ((n:Int)+((wl:Int)-1)+1)=((n+wl:Nat):Int):=by rw[a1m oM oM];omega
     try go_simp
     go_wp2_with fail;refine⟨⟨n+wl,f,W2.heap.size,_,rfl,oM,oM,by rw[List.length_append];simp;omega,hnext,hB2.newk _⟩,?_⟩;rw[(hB2.newk _).kOf,hkn.out];simp;omega)
   |none =>
    obtain⟨u,hu⟩:=zE (s[n]'hlt);obtain⟨c,hc⟩:=zE u.toNat;have hgu:(s[n]!).toNat=c:=by rw[getElem!_pos s n hlt,hu,hc]
    obtain⟨af,haf⟩:=zE (a5r s n);obtain⟨cs,hce⟩:=zE (cellAt af c);have hnext:Hid (a3q s f (n+1) (l++cs)=out):=by
     rw[<-hce,<-haf,<-hgu,<-b2f hlt hw];exact hO.out
    have hc128:c<128:=by
     have:=b2c hrt.out n hlt;rw[hu]at this;unfold okB at this;rw[hc]at this;simp only[Bool.and_eq_true,decide_eq_true_eq]at this;omega
    rw[hw]at hix;replace hix:∀w:World,n<s.size->s.size<=1000000->w.cell? ⟨sb,0,none⟩=some (.string s)->w.cell? ⟨kb,0,none⟩=some (.int .i64 n)->Calls _ _ _ _ λe w'=>e= .returned (.int .i64 (-1))/\_:=hix
    have hw1:IntKind.i64.wrap ((n:Int)+1)=((n+1:Nat):Int):=by rw[a1m oM oM];omega
    obtain⟨sg,hsg⟩:=zE (a5b c);have hsgc:∀w:World,Calls prog 120 #[.string ⟨#[32,44,39,45,46]⟩,.int .u8 (c:Nat)] w λe w'=>e= .returned (.int .i64 sg)/\w'=w:=λw=>by
     have:=Tryz.strings_IndexByte ⟨#[32,44,39,45,46]⟩ (c:Nat) w;rw[<-hsg];exact this
    have hsg5:0<=sg->sg.toNat<5:=λh=>by rw[<-hsg]at h ⊢;exact d5z hc128 h
    have hob:Hid (BW sb sb b kb s n l w wr):=hB;replace hce:=Lib.hid hce;replace haf:=Lib.hid haf;replace hsg:=Lib.hid hsg;clear hw hO hgu hB;go_upto_region 12 with(first
     |(go_at_call 115;refine(a6d _).mono ?_;rintro e w'⟨rfl,rfl⟩)
     |(go_at_call 114;refine(hix _ hlt oM hcs hck).mono ?_;rintro e w'⟨rfl,q,rfl⟩)
     |(refine a0j qM 9 _ _ qM s .i64 (n:Nat) qM qM underlying9 (c:Nat) oM hltI (by rw[<-hc,<-hu];rfl) ?_))
    obtain⟨W2,hW2⟩:=zE ((wr.alloc (.cells a2m 9)).drewN q);have hB2:BW sb sb b kb s n l w W2:=by rw[<-hW2];exact(hob.out.alloc _).drewN q
    rw[hW2];clear hW2 hcs hck hfk hix hob;have cs2:=hB2.cs;have ck2:=hB2.ck;have fk2:=hB2.fk;go_cut [8] (λv8 wx=>v8= .bool af/\BW sb sb b kb s n l w wx)
    case first =>
     by_cases hn0:n=0
     ·subst hn0
      have hafe:af=false:=by rw[<-haf.out];unfold a5r;simp
      subst hafe;go_wp2_with fail;go_meet;exact⟨rfl,hB2⟩
     ·have hn1:0<(n:Int):=oM
      have hw0:IntKind.i64.wrap ((n:Int)-1)=(n:Int)-1:=a1m oM oM;obtain⟨c0,hc0⟩:=zE ((s[n-1]!).toNat);have hafe:(decide ((48:Int)<=(c0:Nat))&&decide ((c0:Int)<=57))=af:=by
       rw[<-haf.out];unfold a5r;rw[hc0,decide_eq_true (show 0<n by omega),Bool.true_and];congr 1 <;> exact decide_eq_decide.2 oM
      have hdg:=a4x c0 af hafe;have hget:((s[n-1]'(by omega)).toNat:Int)=(c0:Nat):=by rw[<-hc0,getElem!_pos s (n-1) oM]
      clear hc0 hafe;go_wp2_with (first
       |(refine a0j qM 9 _ _ qM s .i64 ((n:Int)-1) qM qM underlying9 (c0:Nat) oM oM (by have he:((n:Int)-1).toNat=n-1:=oM;simp only[he];exact hget) ?_)
       |(go_at_call 119;with_reducible refine(hdg _).mono ?_;rintro e w'⟨rfl,rfl⟩))
      go_meet;exact⟨rfl,hB2⟩
    case rest =>
     obtain⟨rfl,hB3⟩:=hcut;clear hB2 cs2 ck2 fk2;have cs2:=hB3.cs;have ck2:=hB3.ck;have fk2:=hB3.fk;go_upto_block 2 with(first
      |(go_at_call 120;refine(hsgc _).mono ?_;rintro e w'⟨rfl,rfl⟩))
     clear hsgc;obtain⟨cs,rfl⟩:∃x,x=cs:=⟨_,rfl⟩;have hcel:=hce.out;unfold cellAt at hcel;by_cases hA:97<=c/\c<=122
     ·rw[if_pos hA]at hcel
      obtain⟨A0,A1⟩:=hA;have i0:(97:Int)<=(c:Nat):=oM;have i1:((c:Nat):Int)<=122:=oM;obtain⟨L,hL⟩:=zE (lettersB[c-97]!);rw[hL]at hcel;obtain⟨ln,hln⟩:=zE L.toNat;have hu8:IntKind.u8.wrap ((c:Int)-97)=(c:Int)-97:=by simp[IntKind.wrap,IntKind.bits,IntKind.signed];omega
      have hat:∀hh:(((c:Int)-97).toNat)<lettersB.size,((lettersB[(((c:Int)-97).toNat)]'hh).toNat:Int)=(ln:Nat):=λhh=>by
       have he:((c:Int)-97).toNat=c-97:=oM;simp only[he]at hh ⊢;rw[<-hln,<-hL,getElem!_pos lettersB (c-97) hh]
      have hlz:(lettersB.size:Int)=26:=rfl;by_cases hj:(af&&decide (c<=106))=true
      ·rw[if_pos hj]at hcel
       subst hcel;rw[Bool.and_eq_true,decide_eq_true_eq]at hj;obtain⟨rfl,j1⟩:=hj;have j2:((c:Nat):Int)<=106:=oM;have hcs3:([48]++[L]:List UInt8).length<=3:=by simp
       rw[<-List.append_assoc]at hnext;have h48:=hB3.byte' (48:UInt8) 48 rfl oM;go_wp2_with (first
        |(go_at_call 118;with_reducible refine h48.mono ?_;rintro e w4⟨rfl,hB4⟩;have cs4:=hB4.cs;have ck4:=hB4.ck;have fk4:=hB4.fk)
        |(refine a0j qM 9 _ _ qM lettersB .u8 ((c:Int)-97) qM qM underlying9 (ln:Nat) oM oM (hat _) ?_)
        |(go_at_call 118;with_reducible refine(BW.two hB4 L ln hln uM).mono ?_;rintro e w9⟨rfl,hB9⟩;have ck9:=hB9.ck;have fk9:=hB9.fk)
        |(go_at_call 119;with_reducible refine(hdg _).mono ?_;rintro e w'⟨rfl,rfl⟩))
       exact yah
      ·rw[if_neg hj]at hcel
       subst hcel;have hcs3:([]++[L]:List UInt8).length<=3:=by simp
       rw[List.nil_append]at hnext hcs3
       cases af with
       |false =>
        exact ycx
       |true =>
        have j2:¬((c:Nat):Int)<=106:=λh=>hj uM
        exact ycx
     ·rw[if_neg hA]at hcel
      by_cases hB:65<=c/\c<=90
      ·rw[if_pos hB]at hcel
       obtain⟨A0,A1⟩:=hB;have i9:¬(97:Int)<=(c:Nat):=oM;have i0:(65:Int)<=(c:Nat):=oM;have i1:((c:Nat):Int)<=90:=oM;obtain⟨L,hL⟩:=zE (lettersB[c-65]!);rw[hL]at hcel;obtain⟨ln,hln⟩:=zE L.toNat;have hu8:IntKind.u8.wrap ((c:Int)-65)=(c:Int)-65:=by simp[IntKind.wrap,IntKind.bits,IntKind.signed];omega
       have hat:∀hh:(((c:Int)-65).toNat)<lettersB.size,((lettersB[(((c:Int)-65).toNat)]'hh).toNat:Int)=(ln:Nat):=λhh=>by
        have he:((c:Int)-65).toNat=c-65:=oM;simp only[he]at hh ⊢;rw[<-hln,<-hL,getElem!_pos lettersB (c-65) hh]
       have hlz:(lettersB.size:Int)=26:=rfl;subst hcel;have hcs3:([32,L]:List UInt8).length<=3:=by simp
       rw[show([32,L]:List UInt8)=[32]++[L]from rfl,<-List.append_assoc]at hnext;have h48:=hB3.byte' (32:UInt8) 32 rfl oM;go_wp2_with (first
        |(go_at_call 118;with_reducible refine h48.mono ?_;rintro e w4⟨rfl,hB4⟩;have cs4:=hB4.cs;have ck4:=hB4.ck;have fk4:=hB4.fk)
        |(refine a0j qM 9 _ _ qM lettersB .u8 ((c:Int)-65) qM qM underlying9 (ln:Nat) oM oM (hat _) ?_)
        |(go_at_call 118;with_reducible refine(BW.two hB4 L ln hln uM).mono ?_;rintro e w9⟨rfl,hB9⟩;have ck9:=hB9.ck;have fk9:=hB9.fk)
        |(go_at_call 119;with_reducible refine(hdg _).mono ?_;rintro e w'⟨rfl,rfl⟩))
       exact yah
      ·rw[if_neg hB]at hcel
       by_cases hC:48<=c/\c<=57
       ·rw[if_pos hC]at hcel
        obtain⟨A0,A1⟩:=hC;have i9:¬(97:Int)<=(c:Nat):=oM;have i8:¬(65:Int)<=(c:Nat):=oM;have i0:(48:Int)<=(c:Nat):=oM;have i1:((c:Nat):Int)<=57:=oM;have hdg:=a4x c true uM;obtain⟨L,hL⟩:=zE (lettersB[(c-48+9) % 10]!);rw[hL]at hcel;obtain⟨ln,hln⟩:=zE L.toNat;have hlz:(lettersB.size:Int)=26:=rfl;have hat:∀hh:((((c:Int)-48+9) % 10).toNat)<lettersB.size,((lettersB[((((c:Int)-48+9) % 10).toNat)]'hh).toNat:Int)=(ln:Nat):=λhh=>by
         have he:(((c:Int)-48+9) % 10).toNat=(c-48+9) % 10:=oM;simp only[he]at hh ⊢;rw[<-hln,<-hL,getElem!_pos lettersB ((c-48+9) % 10) hh]
        cases af with
        |true =>
         simp only[if_true,List.nil_append]at hcel;subst hcel;have hcs3:([L]:List UInt8).length<=3:=by simp
         go_wp2_with (first
          |(refine a0j qM 9 _ _ qM lettersB .u8 (((c:Int)-48+9) % 10) qM qM underlying9 (ln:Nat) oM oM (hat _) ?_)
          |(go_at_call 118;with_reducible refine(BW.two hB3 L ln hln oM).mono ?_;rintro e w9⟨rfl,hB9⟩;have ck9:=hB9.ck;have fk9:=hB9.fk)
          |(go_at_call 119;with_reducible refine(hdg _).mono ?_;rintro e w'⟨rfl,rfl⟩))
         exact yah
        |false =>
         simp only[Bool.false_eq_true,if_false]at hcel;subst hcel;have hcs3:([60]++[L]:List UInt8).length<=3:=by simp
         rw[<-List.append_assoc]at hnext;have h48:=hB3.byte' (60:UInt8) 60 rfl oM;go_wp2_with (first
          |(go_at_call 118;with_reducible refine h48.mono ?_;rintro e w4⟨rfl,hB4⟩;have cs4:=hB4.cs;have ck4:=hB4.ck;have fk4:=hB4.fk)
          |(refine a0j qM 9 _ _ qM lettersB .u8 (((c:Int)-48+9) % 10) qM qM underlying9 (ln:Nat) oM oM (hat _) ?_)
          |(go_at_call 118;with_reducible refine(BW.two hB4 L ln hln uM).mono ?_;rintro e w9⟨rfl,hB9⟩;have ck9:=hB9.ck;have fk9:=hB9.fk)
          |(go_at_call 119;with_reducible refine(hdg _).mono ?_;rintro e w'⟨rfl,rfl⟩))
         exact yah
       ·rw[if_neg hC]at hcel
        have i9:¬((97:Int)<=(c:Nat)/\((c:Nat):Int)<=122):=oM;have i8:¬((65:Int)<=(c:Nat)/\((c:Nat):Int)<=90):=oM;have hdg:=a4x c false uM;rw[hsg.out]at hcel;by_cases hS:0<=sg
        ·rw[if_pos hS]at hcel
         obtain⟨sn,rfl⟩:=Int.eq_ofNat_of_zero_le hS;have hs5:=hsg5 hS;rw[Int.toNat_natCast]at hcel hs5;obtain⟨L,hL⟩:=zE (signedB[sn]!);rw[hL]at hcel;obtain⟨ln,hln⟩:=zE L.toNat;subst hcel;have hcs3:([L]:List UInt8).length<=3:=by simp
         have hlz:(signedB.size:Int)=5:=rfl;have hat:∀hh:((sn:Int).toNat)<signedB.size,((signedB[((sn:Int).toNat)]'hh).toNat:Int)=(ln:Nat):=λhh=>by
          rw[<-hln,<-hL,getElem!_pos signedB sn (by simpa using hh)];rfl
         clear i9 i8;rcases(show c<=64\/(91<=c/\c<=96)\/123<=c by omega)with h9|⟨h9,h8'⟩|h9
         ·have t1:¬(97:Int)<=(c:Nat):=oM
          have t2:¬(65:Int)<=(c:Nat):=oM;exact ybb
         ·have t1:¬(97:Int)<=(c:Nat):=oM
          exact yio
         ·have t1:(97:Int)<=(c:Nat):=oM
          have t4:¬((c:Nat):Int)<=122:=oM;exact yio
        ·rw[if_neg hS]at hcel
         have hS2:¬0<=sg:=hS;obtain⟨L,hL⟩:=zE (lettersB[c / 16]!);obtain⟨L2,hL2⟩:=zE (lettersB[c % 16]!);rw[hL,hL2]at hcel;obtain⟨ln,hln⟩:=zE L.toNat;obtain⟨ln2,hln2⟩:=zE L2.toNat;subst hcel;have hcs3:([8,L,L2]:List UInt8).length<=3:=by simp
         rw[show([8,L,L2]:List UInt8)=[8]++([L]++[L2])from rfl,<-List.append_assoc,<-List.append_assoc]at hnext;have hlz:(lettersB.size:Int)=26:=rfl;have hat:∀hh:(((c:Int) / 16).toNat)<lettersB.size,((lettersB[(((c:Int) / 16).toNat)]'hh).toNat:Int)=(ln:Nat):=λhh=>by
          have he:((c:Int) / 16).toNat=c / 16:=oM;simp only[he]at hh ⊢;rw[<-hln,<-hL,getElem!_pos lettersB (c / 16) hh]
         have hat2:∀hh:(((c:Int) % 16).toNat)<lettersB.size,((lettersB[(((c:Int) % 16).toNat)]'hh).toNat:Int)=(ln2:Nat):=λhh=>by
          have he:((c:Int) % 16).toNat=c % 16:=oM;simp only[he]at hh ⊢;rw[<-hln2,<-hL2,getElem!_pos lettersB (c % 16) hh]
         have h8:=hB3.byte' (8:UInt8) 8 rfl oM;clear i9 i8;rcases(show c<=64\/(91<=c/\c<=96)\/123<=c by omega)with h9|⟨h9,h8'⟩|h9
         ·have t1:¬(97:Int)<=(c:Nat):=oM
          have t2:¬(65:Int)<=(c:Nat):=oM;exact yao
         ·have t1:¬(97:Int)<=(c:Nat):=oM
          exact yip
         ·have t1:(97:Int)<=(c:Nat):=oM
          have t4:¬((c:Nat):Int)<=122:=oM;exact yip
  ·have hge:¬(n:Int)<(s.size:Int):=oM
   have ho:l=out:=by rw[<-hO.out,b4l oM]
   subst ho;go_wp2_with (first
    |(go_at_call 121;refine(Tryz.Builder_String_any_k sb b l _ hB.bld hB.le).mono ?_;rintro e w3⟨rfl,hI3,hb3,ho3⟩))
   go_ret2;exact⟨rfl,by rw[hsb.out];exact hB.below.trans hb3⟩
end
end Go.Proofs.YtfocdbjceedagaaGreatDoor
