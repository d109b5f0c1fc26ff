/-
  Parts.
-/
import Derived.Test.YtfocdbjceedagaaGreatDoorXaq
import Derived.Deep.Onto
set_option linter.unusedVariables false
set_option linter.unusedSimpArgs false
namespace Go.Proofs.YtfocdbjceedagaaGreatDoor
open Tryz
section
open Go.RowKit Go.Shelf
theorem b2z {k:Int}{en:List (a0r×Int)}{d:Dt}(h:d∈a2d k en):(d.x,d.y)∈en.map (·.1):=by
 unfold a2d at h;obtain⟨p,hp,rfl⟩:=List.mem_map.1 h;exact (List.mergeSort_perm _ _).mem_iff.1 hp
section
variable {w W W':World}{s:Sh}{B2 base Bw:Nat}{v v':Value}{en en':List (a0r×Int)}{c:Array Value}{lv:Value}{l:List a0r}
end
def b2h:List Dt→Dt→List Dt
 |[],x=>[x]
 |d::l,x=>if ltS (d.x,d.y) (x.x,x.y) then d::b2h l x else if (d.x,d.y)=(x.x,x.y) then (if x.i<d.i then ⟨d.x,d.y,d.k,x.i⟩ else d)::l else x::d::l
def c5d:List a0r→a0r→List a0r
 |[],p=>[p]
 |q::ks,p=>if ltS q p then q::c5d ks p else if q=p then q::ks else p::q::ks
theorem a4t (p:a0r):ltS p p=false:=by simp[ltS]
theorem b1e {p q r:a0r}(h1:ltS p q=true)(h2:ltS q r=true):ltS p r=true:=by simp[ltS] at *;omega
theorem b8x {p q:a0r}(h1:ltS p q=false)(h2:¬p=q):ltS q p=true:=by
 obtain⟨a,b⟩:=p;obtain⟨c,d⟩:=q;simp[ltS] at *;omega
theorem b4b (p q:a0r):∀ks:List a0r,q∈c5d ks p↔q=p∨q∈ks
 |[]=>by simp[c5d]
 |a::ks=>by
  unfold c5d;split
  ·simp only[List.mem_cons,b4b p q ks]
   constructor
   ·rintro (h|h|h) <;> simp[h]
   ·rintro (h|h|h) <;> simp[h]
  ·split
   ·rename_i h;subst h;simp
   ·simp
theorem b1f (p:a0r):∀ {ks:List a0r},ks.Pairwise (fun a b=>ltS a b=true)→(c5d ks p).Pairwise (fun a b=>ltS a b=true)
 |[],_=>by simp[c5d]
 |a::ks,h=>by
  rw[List.pairwise_cons] at h;unfold c5d;split
  ·rename_i h1
   rw[List.pairwise_cons];refine⟨fun b hb=> ?_,b1f p h.2⟩;rcases (b4b p b ks).1 hb with rfl|hb
   ·exact h1
   ·exact h.1 b hb
  ·rename_i h1
   split
   ·exact List.pairwise_cons.2 h
   ·rename_i h2
    have h3:=b8x (by simpa using h1) h2;rw[List.pairwise_cons];refine⟨fun b hb=> ?_,List.pairwise_cons.2 h⟩;rcases List.mem_cons.1 hb with rfl|hb
    ·exact h3
    ·exact b1e h3 (h.1 b hb)
def mkD (k:Int)(f:a0r→Int)(p:a0r):Dt:=⟨p.1,p.2,k,f p⟩
theorem c0l (k:Int)(f f':a0r→Int)(p:a0r)(id:Int):∀(ks:List a0r),ks.Pairwise (fun a b=>ltS a b=true)→(∀q,q≠p→f' q=f q)→(p∈ks→f' p=if id<f p then id else f p)→(p∉ks→f' p=id) →
 b2h (ks.map (mkD k f)) ⟨p.1,p.2,k,id⟩=(c5d ks p).map (mkD k f')
 |[],_,_,_,h3=>by
  simp only[List.map_nil,b2h,c5d,List.map_cons];unfold mkD;rw[h3 (by simp)]
 |a::ks,hs,h1,h2,h3=>by
  rw[List.pairwise_cons] at hs;show (if ltS a p=true then mkD k f a::b2h (ks.map (mkD k f)) ⟨p.1,p.2,k,id⟩ else if a=p then (if id<f a then ⟨a.1,a.2,k,id⟩ else mkD k f a)::ks.map (mkD k f) else ⟨p.1,p.2,k,id⟩::mkD k f a::ks.map (mkD k f))=(if ltS a p=true then a::c5d ks p else if a=p then a::ks else p::a::ks).map (mkD k f');by_cases hlt:ltS a p=true
  ·rw[if_pos hlt,if_pos hlt,List.map_cons]
   have hne:a≠p:=fun e=>by subst e;rw[a4t] at hlt;cases hlt
   rw[c0l k f f' p id ks hs.2 h1 (fun h=>h2 (List.mem_cons_of_mem _ h)) (fun h=>h3 (fun e=>by rcases List.mem_cons.1 e with e|e;exact hne e.symm;exact h e))];congr 1;unfold mkD;rw[h1 a hne]
  ·rw[if_neg hlt,if_neg hlt]
   by_cases he:a=p
   ·subst he
    rw[if_pos rfl,if_pos rfl,List.map_cons];have hrest:ks.map (mkD k f)=ks.map (mkD k f'):=List.map_congr_left fun q hq=>by
     have hne:q≠a:=fun e=>by have:=hs.1 q hq;rw[e,a4t] at this;cases this
     unfold mkD;rw[h1 q hne]
    rw[hrest];congr 1;have h4:=h2 List.mem_cons_self;unfold mkD;split
    ·rename_i hid;rw[if_pos hid] at h4;rw[h4]
    ·rename_i hid;rw[if_neg hid] at h4;rw[h4]
   ·have h5:=b8x (by simpa using hlt) he
    rw[if_neg he,if_neg he,List.map_cons,List.map_cons];have hni:p∉a::ks:=fun e=>by
     rcases List.mem_cons.1 e with e|e
     ·exact he e.symm
     ·have:=b1e h5 (hs.1 p e);rw[a4t] at this;cases this
    have hne:∀q∈a::ks,q≠p:=fun q hq e=>hni (e▸hq)
    have hrest:ks.map (mkD k f)=ks.map (mkD k f'):=List.map_congr_left fun q hq=>by
     unfold mkD;rw[h1 q (hne q (List.mem_cons_of_mem _ hq))]
    rw[hrest];unfold mkD;rw[h3 hni,h1 a (hne a List.mem_cons_self)]
theorem b6r {en:List (a0r×Int)}(hn:(en.map (·.1)).Nodup):(a2s en).Pairwise (fun a b=>ltS a b=true):=by
 have h1:(a2s en).Pairwise (fun a b=>leS a b=true):=List.pairwise_mergeSort b5v b5w _;have h2:(a2s en).Nodup:=(List.mergeSort_perm _ _).nodup_iff.2 hn;rw[List.nodup_iff_pairwise_ne] at h2;refine (h1.and h2).imp ?_;rintro a b⟨ha,hb⟩;unfold leS at ha;exact b8x (by simpa using ha) (fun e=>hb e.symm)
theorem b1g {en:List (a0r×Int)}{p:a0r}:p∈a2s en↔(a6k en p).isSome=true:=by
 rw[←a7u,a2m];exact (List.mergeSort_perm _ _).mem_iff
theorem c1y (k:Int)(s:Sh)(en:List (a0r×Int))(c:a0r×Int)(hn:(en.map (·.1)).Nodup) :
 a2d k (b2g s en c)=if onS s c.1.1 c.1.2 then b2h (a2d k en) ⟨c.1.1,c.1.2,k,c.2⟩ else a2d k en:=by
 obtain⟨p,id⟩:=c
 cases hon:onS s p.1 p.2 with
 |false =>
  rw[if_neg (by simp)];unfold b2g c6t;simp[hon]
 |true =>
  rw[if_pos rfl];have hid:∀q,a6k (b2g s en (p,id)) q=if q=p then some (c8g id (a6k en p)) else a6k en q:=fun q=>by
   unfold b2g;rw[c5a];simp[hon]
  have hks:a2s (b2g s en (p,id))=c5d (a2s en) p:=by
   have hs:=b1f p (b6r hn);refine (b2p (b2o (a8j s en (p,id) hn) ?_ (fun q=> ?_)) ?_).symm
   ·rw[List.nodup_iff_pairwise_ne]
    exact hs.imp fun {a b} h e=>by subst e;rw[a4t] at h;cases h
   ·rw[b4b,b1g,←a2m,a7u,hid]
    split
    ·rename_i h;simp[h]
    ·rename_i h;simp[h]
   ·refine hs.imp fun {a b} h=> ?_
    unfold leS
    cases hb:ltS b a with
    |false=>rfl
    |true=>have:=b1e h hb;rw[a4t] at this;cases this
  unfold a2d;rw[hks];refine (c0l k (fun q=>(a6k en q).getD 0) (fun q=>(a6k (b2g s en (p,id)) q).getD 0) p id (a2s en) (b6r hn) (fun q hq=> ?_) (fun h=> ?_) (fun h=> ?_)).symm
  ·simp only[hid,if_neg hq]
  ·simp only[hid,if_true,Option.getD_some]
   rw[b1g] at h
   cases ho:a6k en p with
   |none=>rw[ho] at h;cases h
   |some o=>rfl
  ·simp only[hid,if_true,Option.getD_some]
   rw[b1g] at h
   cases ho:a6k en p with
   |none=>rfl
   |some o=>rw[ho] at h;exact absurd rfl h
def c8h (k:Int)(s:Sh)(cs:List (a0r×Int))(l:List Dt):List Dt:=cs.foldl (fun l c=>if onS s c.1.1 c.1.2 then b2h l ⟨c.1.1,c.1.2,k,c.2⟩ else l) l
theorem a8l (k:Int)(s:Sh):∀(cs:List (a0r×Int))(en:List (a0r×Int)),(en.map (·.1)).Nodup→c8h k s cs (a2d k en)=a2d k (cs.foldl (b2g s) en)
 |[],_,_=>rfl
 |c::cs,en,hn=>by
  unfold c8h;rw[List.foldl_cons,List.foldl_cons,←c1y k s en c hn];exact a8l k s cs _ (a8j s en c hn)
def a6q (i j:Int)(r:Nat→Bool):Nat→List a0r
 |0=>[]
 |k+1=>a6q i j r k++(if r k then [b3u i j k] else [])
def a7w (i j:Int)(k:Nat)(d:Nat→Bool)(l:List a0r):Nat→List a0r
 |0=>l
 |n+1=>a7w i j k d l n++(if d n then [a9x i j k n] else [])
def a4a (i j:Int)(D:Nat→Nat→Bool)(l:List a0r):Nat→List a0r
 |0=>l
 |k+1=>a7w i j k (D k) (a4a i j D l k) 6
def a3q (i j:Int)(r:Nat→Bool)(D:Nat→Nat→Bool)(n:Nat):List a0r:=a4a i j D (a6q i j r 9) n
def c6w (id:Int)(en:List (a0r×Int))(p:a0r):List (a0r×Int):=b3p en p id
theorem c0m (i j id:Int)(r:Nat→Bool):∀k,c4q i j id r k=(a6q i j r k).foldl (c6w id) []
 |0=>rfl
 |k+1=>by
  rw[c4q,a6q,List.foldl_append,←c0m i j id r k];unfold upE;split <;> rfl
theorem c0n (i j id:Int)(k:Nat)(d:Nat→Bool)(l:List a0r):∀n,c6u i j id k d (l.foldl (c6w id) []) n=(a7w i j k d l n).foldl (c6w id) []
 |0=>rfl
 |n+1=>by
  rw[c6u,a7w,List.foldl_append,←c0n i j id k d l n];unfold upE;split <;> rfl
theorem b6s (i j id:Int)(D:Nat→Nat→Bool)(l:List a0r):∀n,b0w i j id D (l.foldl (c6w id) []) n=(a4a i j D l n).foldl (c6w id) []
 |0=>rfl
 |n+1=>by rw[b0w,a4a,b6s i j id D l n,c0n]
theorem a8m (i j id:Int)(r:Nat→Bool)(D:Nat→Nat→Bool)(n:Nat):a5r i j id r D n=(a3q i j r D n).foldl (c6w id) []:=by
 unfold a5r a3q;rw[c0m,b6s]
theorem a8n (i j:Int)(r:Nat→Bool):∀k,(a6q i j r k).length≤k
 |0=>yR _
 |k+1=>by
  have:=a8n i j r k;rw[a6q,List.length_append];split <;> simp <;> omega
theorem b3a (i j:Int)(k:Nat)(d:Nat→Bool)(l:List a0r):∀n,(a7w i j k d l n).length≤l.length+n
 |0=>yR _
 |n+1=>by
  have:=b3a i j k d l n;rw[a7w,List.length_append];split <;> simp <;> omega
theorem a6w (i j:Int)(D:Nat→Nat→Bool)(l:List a0r):∀n,(a4a i j D l n).length≤l.length+6*n
 |0=>yR _
 |n+1=>by
  have h1:=a6w i j D l n;have h2:=b3a i j n (D n) (a4a i j D l n) 6;rw[a4a];omega
def c1z (id:Int)(en:List (a0r×Int)):Prop:=∀e∈en,e.2=id
theorem c2a {id:Int}{en:List (a0r×Int)}(h:c1z id en)(p:a0r):c1z id (b3p en p id):=by
 intro e he;unfold b3p at he;split at he
 ·obtain⟨e',he',rfl⟩:=List.mem_map.1 he
  split
  ·rfl
  ·exact h e' he'
 ·rcases List.mem_append.1 he with he|he
  ·exact h e he
  ·rw[List.mem_singleton.1 he]
theorem c5e {id:Int}{en:List (a0r×Int)}(h:c1z id en){p:a0r}(hk:a9p en p=true):b3p en p id=en:=by
 unfold b3p;rw[if_pos hk];conv=>rhs;rw[←List.map_id en]
 refine List.map_congr_left fun e he=> ?_
 split
 ·rename_i hp
  have h1:=h e he;obtain⟨a,b⟩:=e;simp only[beq_iff_eq] at hp h1;rw[←hp,←h1];rfl
 ·rfl
theorem c8i {id:Int}{en:List (a0r×Int)}(h:c1z id en){p:a0r}(hk:a9p en p=true):(a6k en p).getD 0=id:=by
 rw[a7u] at hk;obtain⟨x,hx⟩:=Option.isSome_iff_exists.1 hk;rw[hx];unfold a6k at hx;obtain⟨e,he,rfl⟩:=Option.map_eq_some_iff.1 hx;exact h e (List.mem_of_find?_eq_some he)
theorem c5f {s:Sh}{id:Int}{en:List (a0r×Int)}(h:c1z id en){p:a0r}(hon:onS s p.1 p.2=true):b3p en p id=b2g s en (p,id):=by
 unfold b2g c6t;simp only[hon,Bool.true_and]
 cases hk:a9p en p with
 |false=>simp
 |true =>
  rw[c8i h hk,c5e h hk];simp
theorem b6t {s:Sh}{id:Int}:∀(ps:List a0r)(en:List (a0r×Int)),c1z id en→(∀p∈ps,onS s p.1 p.2=true)→ps.foldl (c6w id) en=(ps.map fun p=>(p,id)).foldl (b2g s) en
 |[],_,_,_=>rfl
 |p::ps,en,h,hon=>by
  rw[List.foldl_cons,List.map_cons,List.foldl_cons,←c5f h (hon p List.mem_cons_self)];exact b6t ps _ (c2a h p) (fun q hq=>hon q (List.mem_cons_of_mem _ hq))
theorem a7x {id:Int}(q:a0r):∀(ps:List a0r)(en:List (a0r×Int)),q∈(ps.foldl (c6w id) en).map (·.1)↔q∈ps∨q∈en.map (·.1)
 |[],en=>by simp
 |p::ps,en=>by
  rw[List.foldl_cons,a7x q ps];unfold c6w;rw[←a2m,←a2m,c0b];simp only[List.mem_cons,Bool.or_eq_true,decide_eq_true_eq];constructor
  ·rintro (h|h|h) <;> simp[h]
  ·rintro ((h|h)|h) <;> simp[h]
def d0h (id:Int)(ps:List a0r):List Dt:=ps.foldl (fun l p=>b2h l ⟨p.1,p.2,3,id⟩) []
theorem b6u {s:Sh}{id:Int}{ps:List a0r}(hon:∀p∈ps,onS s p.1 p.2=true):d0h id ps=a2d 3 (ps.foldl (c6w id) []):=by
 rw[b6t ps [] (by intro e he;cases he) hon,←a8l 3 s _ [] (by simp)];unfold d0h c8h;rw[List.foldl_map,show a2d 3 []=[] from by simp[a2d,a2s]];have:∀(ps:List a0r) (l:List Dt),(∀p∈ps,onS s p.1 p.2=true)→ps.foldl (fun l p=>b2h l ⟨p.1,p.2,3,id⟩) l=ps.foldl (fun l p=>if onS s p.1 p.2=true then b2h l ⟨p.1,p.2,3,id⟩ else l) l:=by
  intro ps;induction ps with
  |nil=>intros;rfl
  |cons p ps ih =>
   intro l h;rw[List.foldl_cons,List.foldl_cons,if_pos (h p List.mem_cons_self)];exact ih _ (fun q hq=>h q (List.mem_cons_of_mem _ hq))
 exact this ps [] hon
theorem b1h (x:Dt):∀l:List Dt,(b2h l x).length≤l.length+1
 |[]=>yR _
 |d::l=>by
  have:=b1h x l;rw[b2h];split
  ·simp;omega
  ·split <;> simp
theorem b1i (id:Int)(ps:List a0r):(d0h id ps).length≤ps.length:=by
 have h:∀(ps:List a0r) (l:List Dt),(ps.foldl (fun l p=>b2h l ⟨p.1,p.2,3,id⟩) l).length≤l.length+ps.length:=by
  intro ps;induction ps with
  |nil=>intro l;exact yR _
  |cons p ps ih =>
   intro l;have h1:=ih (b2h l ⟨p.1,p.2,3,id⟩);have h2:=b1h ⟨p.1,p.2,3,id⟩ l;rw[List.foldl_cons,List.length_cons];omega
 have:=h ps [];simpa [d0h] using this
theorem c8j {s:Sh}{id:Int}{ps:List a0r}(hon:∀p∈ps,onS s p.1 p.2=true):∀d∈d0h id ps,onS s d.x d.y=true:=by
 intro d hd;rw[b6u hon] at hd;have h:=b2z hd;rw[a7x] at h;rcases h with h|h
 ·exact hon _ h
 ·simp at h
end
section
open Go.RowKit Go.Shelf
attribute [local go_sem] Oper.semAt_some
attribute [local go_sem ↓] Go.wp_at_zero Go.wp_at_succ
theorem b6v (s:ByteArray)(hd:d2l s):∀n,n≤s.size→∀c∈b3v s n,c.toNat=60∨c.toNat=26∨c.toNat=1∨c.toNat=3∨c.toNat=9∨c.toNat=25∨c.toNat=17∨c.toNat=11∨c.toNat=27∨c.toNat=19∨c.toNat=10
 |0,_,c,hc=>by cases hc
 |n+1,h,c,hc=>by
  unfold b3v at hc;rcases List.mem_append.1 hc with hc|hc
  ·split at hc
   ·rw[List.mem_singleton.1 hc]
    exact .inl rfl
   ·exact b6v s hd n (by omega) c hc
  ·rw[List.mem_singleton.1 hc]
   obtain⟨h0,h1⟩:=hd n (by omega);have hg:s[n]! =s[n]'(by omega):=getElem!_pos s n (by omega);rw[hg];obtain⟨k,hk⟩:∃k,(s[n]'(by omega)).toNat=k:=⟨_,rfl⟩;rw[hk] at h0 h1 ⊢;rcases (show k=48∨k=49∨k=50∨k=51∨k=52∨k=53∨k=54∨k=55∨k=56∨k=57 from by omega) with rfl|rfl|rfl|rfl|rfl|rfl|rfl|rfl|rfl|rfl <;> decide
def a1n (n:Nat):ByteArray:=⟨(b3v (b1z n) (b1z n).size).toArray⟩
theorem a6x (n:Nat):(a1n n).size=(b3v (b1z n) (b1z n).size).length:=by
 show (b3v (b1z n) (b1z n).size).toArray.size=_;simp
theorem b8y (n k:Nat)(hk:k<(a1n n).size):((a1n n)[k]'hk).toNat=60∨((a1n n)[k]'hk).toNat=26∨((a1n n)[k]'hk).toNat=1∨((a1n n)[k]'hk).toNat=3∨((a1n n)[k]'hk).toNat=9∨((a1n n)[k]'hk).toNat=25∨((a1n n)[k]'hk).toNat=17∨((a1n n)[k]'hk).toNat=11∨((a1n n)[k]'hk).toNat=27∨((a1n n)[k]'hk).toNat=19∨((a1n n)[k]'hk).toNat=10:=by
 have hl:k<(b3v (b1z n) (b1z n).size).length:=by rw[←a6x];exact hk
 exact b6v (b1z n) (b6i n) _ (yR _) _ (List.getElem_mem hl)
theorem b1j (n:Nat)(h:n≤999):(a1n n).size≤4:=by
 have h1:=b3w (b1z n) (b1z n).size;have h2:=a5b 2 n (by omega);rw[a6x];rw[a7q] at h1 ⊢;omega
def a4n (n k q:Nat):Bool:=d0f ((a1n n)[k]!).toNat q
theorem a5f (n k:Nat)(hk:k<(a1n n).size)(q:Nat):a4n n k q=d0f ((a1n n)[k]'hk).toNat q:=by
 unfold a4n;rw[getElem!_pos (a1n n) k hk]
section
variable {s:Sh}{pl:Array Value}{w W W':World}{B3 B4 base:Nat}{lv:Value}{l:List a0r}
end
section
variable {s:Sh}{pl:Array Value}{w W W':World}{B3 B4 base:Nat}{lv:Value}{l:List a0r}{v v':Value}{ds ds':List Dt}
end
end
section
open Go.RowKit Go.Shelf
attribute [local go_sem] Oper.semAt_some
def Pow (W : World) : Prop := Lib.TabIs prog W "internal/strconv.uint64pow10" .u64 Lib.pow10Tab
theorem Pow.below {W W':World}(h:Pow W)(hb:Below W.heap.size W W'):Pow W':=by
 unfold Pow Lib.TabIs World.var? at *;obtain⟨g,hg,h2⟩:=Option.bind_eq_some_iff.1 h;rw[hg];have hlt:g<W.heap.size:=by
  cases ho:W.heap[g]? with
  |none=>rw[ho] at h2;cases h2
  |some o=>exact (Array.getElem?_eq_some_iff.1 ho).1
 show (match W'.heap[g]? with|some (.cells cs _ _)=>some cs|_=>none)=_;rw[hb.block g hlt];exact h2
def plM (cls:ByteArray):Nat:=((b5o cls.data.toList).tmod 7).toNat
theorem d2o (cls:ByteArray):plM cls<7∧(b5o cls.data.toList).tmod 7=plM cls:=by
 have h:=(c4p cls.data.toList).1;have h1:=Int.tmod_nonneg 7 h;have h2:=Int.tmod_lt_of_pos (b5o cls.data.toList) (b:=7) (by omega);unfold plM;omega
def b8z (i j:Int)(cls:ByteArray)(num:Int):List a0r:=a3q i j (b0v (plM cls)) (a4n num.toNat) (a1n num.toNat).size
def plF (s:Sh)(x y id:Int)(cls:ByteArray)(num:Int):Bool×List Dt :=
 if (ofS s x y).2.2&&decide (1≤num)&&decide (num≤999)&&(b8z (ofS s x y).1 (ofS s x y).2.1 cls num).all (fun p=>onS s p.1 p.2) then (true,d0h id (b8z (ofS s x y).1 (ofS s x y).2.1 cls num)) else (false,[])
theorem d0i {s:Sh}{x y id:Int}{cls:ByteArray}{num i j:Int}{b:Bool}(h:ofS s x y=(i,j,b))(hno:b=false∨num<1∨999<num):plF s x y id cls num=(false,[]):=by
 unfold plF;rw[h];rw[if_neg];rcases hno with rfl|h|h
 ·simp
 ·rw[decide_eq_false (show ¬1≤num by omega)];simp
 ·rw[decide_eq_false (show ¬num≤999 by omega)];simp
theorem d1e {s:Sh}{x y id:Int}{cls:ByteArray}{num i j:Int}(h:ofS s x y=(i,j,true))(h0:1≤num)(h1:num≤999):plF s x y id cls num=if (b8z i j cls num).all (fun p=>onS s p.1 p.2) then (true,d0h id (b8z i j cls num)) else (false,[]):=by
 unfold plF;rw[h];simp only[decide_eq_true h0,decide_eq_true h1,Bool.true_and]
theorem b6w (i j:Int)(r:Nat→Bool)(n:Nat)(hn:n≤999):(a3q i j r (a4n n) (a1n n).size).length≤33:=by
 have h1:=a6w i j (a4n n) (a6q i j r 9) (a1n n).size;have h2:=a8n i j r 9;have h3:=b1j n hn;unfold a3q;omega
theorem b3b (s:ByteArray):∀n,(b3v s (n+1))[0]? =some 60
 |0=>by simp[b3v]
 |n+1=>by
  have h:=b3b s n;rw[b3v,if_neg (by omega),List.getElem?_append_left (by obtain⟨h1,-⟩:=List.getElem?_eq_some_iff.1 h;exact h1)];exact h
theorem b9a (n:Nat):a4n n 0 2=true∧1≤(a1n n).size:=by
 have hl:0<(Lib.decDigits n).length:=by rw[Lib.decDigits];split <;> simp
 have hs:0<(b1z n).size:=by rw[a7q];exact hl
 obtain⟨k,hk⟩:∃k,(b1z n).size=k+1:=⟨(b1z n).size-1,by omega⟩;have hf:=b3b (b1z n) k;rw[←hk] at hf;obtain⟨h0,h1⟩:=List.getElem?_eq_some_iff.1 hf;have hz:0<(a1n n).size:=by rw[a6x];exact h0
 refine⟨?_,hz⟩;rw[a5f n 0 hz 2];have h2:(a1n n)[0]'hz=60:=h1;rw[h2];decide
theorem b9b (i j:Int)(k:Nat)(d:Nat→Bool)(l:List a0r)(h:d 2=true):a7w i j k d l 6≠[]:=by
 simp only[a7w,h,if_true];simp
theorem a9h (i j:Int)(D:Nat→Nat→Bool)(l:List a0r)(h:D 0 2=true):∀n,a4a i j D l (n+1)≠[]
 |0=>by rw[a4a];exact b9b _ _ _ _ _ h
 |n+1=>by
  have ih:=a9h i j D l h n;rw[a4a];simp only[a7w];simp[ih]
theorem b9c (i j id:Int)(r:Nat→Bool)(n:Nat):a5r i j id r (a4n n) (a1n n).size≠[]:=by
 obtain⟨h1,h2⟩:=b9a n;obtain⟨k,hk⟩:∃k,(a1n n).size=k+1:=⟨(a1n n).size-1,by omega⟩;have h3:=a9h i j (a4n n) (a6q i j r 9) h1 k;rw[a8m];unfold a3q;rw[hk];obtain⟨q,hq⟩:=List.exists_mem_of_ne_nil _ h3;intro he;have h4:=(a7x (id:=id) q (a4a i j (a4n n) (a6q i j r 9) (k+1)) []).2 (.inl hq);rw[he] at h4;simp at h4
theorem b9d (s:Sh)(id x y wt di num i j:Int)(cls name:ByteArray)(w:World)(f0:a0k s.ax)(f1:a0k s.ay)(hof:ofS s x y=(i,j,true))(hno:num<1∨999<num) :
 Calls prog 23 #[shV s,.agg (plC id x y wt di cls name),.int .i64 num] w fun e w'=>e= .returned (.tuple #[.slice none 0 0,.bool false])∧Below w.heap.size w w':=by
 obtain⟨ax,ay,st,sw,sh,sg⟩:=s;replace hof:=Lib.hid hof;have hwin:inR 1 num 999=false:=by unfold inR;rcases hno with h|h <;> simp <;> omega
 replace hwin:=Lib.hid hwin;clear hno;go_enter func23,ntmps23;go_wp2_with (first|(go_at_call 62;refine (d1b hof.out _ f0 f1).mono ?_;rintro e w'⟨rfl,hb_⟩;obtain⟨p,rfl⟩:=a0e hb_;clear hb_)|(go_at_call 59;refine (a2i hwin.out _).mono ?_;rintro e w'⟨rfl,rfl⟩)|fail);go_ret2;exact⟨rfl,zC⟩
end
section
open Go.RowKit Go.Shelf
structure CT where
 k:Nat
 e:TypeId
abbrev CT.int:CT:=⟨0,0⟩
abbrev CT.str:CT:=⟨1,0⟩
abbrev CT.bool:CT:=⟨2,0⟩
abbrev CT.sl (e:TypeId):CT:=⟨3,e⟩
abbrev CT.any:CT:=⟨4,0⟩
def a2r (t:TypeId):List CT :=
 if t=3 then [.int]
 else if t=26 then [.int,.int]
 else if t=245 then [.int,.int,.int]
 else if t=206 then [.int,.sl 26,.int,.int]
 else if t=249 then [.int,.sl 245,.int,.int]
 else if t=140 then [.int,.str,.str,.int,.int]
 else if t=149 then [.int,.sl 26,.int,.str,.str,.bool,.int,.int]
 else if t=66 then [.int,.int,.int,.str,.any,.int,.int]
 else []
abbrev a6y (t:TypeId):Nat:=(a2r t).length
abbrev BS:=Nat→Prop
def SL (S:BS)(W:World)(e:TypeId)(v:Value)(n:Nat):Prop :=
 ∃a cap,v= .slice a n cap∧n≤cap∧((a=none∧cap=0)∨∃b o c,a=some ⟨b,o*a6y e,none⟩∧S b∧Blk W b c e∧(o+cap)*a6y e≤c.size)
structure CT.ok (S:BS)(W:World)(ct:CT)(v:Value):Prop where
 lt:ct.k<5
 i:ct.k=0→∃x,v= .int .i64 x∧a0k x
 s:ct.k=1→∃s:ByteArray,v= .string s∧s.size≤30
 b:ct.k=2→∃b,v= .bool b
 l:ct.k=3→∃n,n≤100∧SL S W ct.e v n
 a:ct.k=4→∃s:ByteArray,v= .string s
theorem CT.ok_int {S:BS}{W:World}{x:Int}(h:a0k x):CT.int.ok S W (.int .i64 x):=⟨by decide,fun _=>⟨x,rfl,h⟩,fun e=>absurd e (by decide),fun e=>absurd e (by decide),fun e=>absurd e (by decide),fun e=>absurd e (by decide)⟩
theorem CT.ok_str {S:BS}{W:World}{s:ByteArray}(h:s.size≤30):CT.str.ok S W (.string s):=⟨by decide,fun e=>absurd e (by decide),fun _=>⟨s,rfl,h⟩,fun e=>absurd e (by decide),fun e=>absurd e (by decide),fun e=>absurd e (by decide)⟩
theorem CT.ok_bool {S:BS}{W:World}(b:Bool):CT.bool.ok S W (.bool b):=⟨by decide,fun e=>absurd e (by decide),fun e=>absurd e (by decide),fun _=>⟨b,rfl⟩,fun e=>absurd e (by decide),fun e=>absurd e (by decide)⟩
theorem CT.ok_sl {S:BS}{W:World}{e:TypeId}{v:Value}{n:Nat}(h:SL S W e v n)(hn:n≤100):(CT.sl e).ok S W v:=⟨by show 3<5;decide,fun e=>absurd e (by show ¬3=0;decide),fun e=>absurd e (by show ¬3=1;decide),fun e=>absurd e (by show ¬3=2;decide),fun _=>⟨n,hn,h⟩,fun e=>absurd e (by show ¬3=4;decide)⟩
def TB (S:BS)(W:World)(e:TypeId)(c:Array Value):Prop:=∀(i:Nat)(u:Value)(ct:CT),c[i]? =some u→(a2r e)[i % a6y e]? =some ct→ct.ok S W u
def TW (S:BS)(W:World):Prop:=∀b,S b→∃c e,Blk W b c e∧TB S W e c
def Shp (S:BS)(W W':World):Prop:=∀b c e,S b→Blk W b c e→∃c',Blk W' b c' e∧c'.size=c.size
theorem Shp.refl (S:BS)(W:World):Shp S W W:=fun _ c _ _ h=>⟨c,h,rfl⟩
theorem Shp.trans {S S1:BS}{W W1 W2:World}(h1:Shp S W W1)(h2:Shp S1 W1 W2)(hs:∀b,S b→S1 b):Shp S W W2:=fun b c e hb hc=>by
 obtain⟨c1,k1,s1⟩:=h1 b c e hb hc;obtain⟨c2,k2,s2⟩:=h2 b c1 e (hs b hb) k1;exact⟨c2,k2,s2.trans s1⟩
theorem SL.mono {S S':BS}{W W':World}{e:TypeId}{v:Value}{n:Nat}(h:SL S W e v n)(hs:∀b,S b→S' b)(hsh:Shp S W W'):SL S' W' e v n:=by
 obtain⟨a,cap,rfl,hn,h|⟨b,o,c,rfl,hb,hc,hl⟩⟩:=h
 ·exact⟨a,cap,rfl,hn,.inl h⟩
 ·obtain⟨c',hc',hz⟩:=hsh b c e hb hc
  exact⟨_,cap,rfl,hn,.inr ⟨b,o,c',rfl,hs b hb,hc',by omega⟩⟩
theorem CT.ok.mono {S S':BS}{W W':World}{ct:CT}{v:Value}(h:ct.ok S W v)(hs:∀b,S b→S' b)(hsh:Shp S W W'):ct.ok S' W' v :=
 ⟨h.lt,h.i,h.s,h.b,fun e=>by obtain⟨n,hn,h⟩:=h.l e;exact⟨n,hn,h.mono hs hsh⟩,h.a⟩
theorem TB.mono {S S':BS}{W W':World}{e:TypeId}{c:Array Value}(h:TB S W e c)(hs:∀b,S b→S' b)(hsh:Shp S W W'):TB S' W' e c:=fun i u ct h1 h2=>(h i u ct h1 h2).mono hs hsh
structure Ev (X:BS)(S:BS)(W:World)(S':BS)(W':World):Prop where
 sub:∀b,S b→S' b
 new:∀b,S' b→S b∨W.heap.size≤b
 os:W'.os=W.os
 tape:W'.tape=W.tape
 output:W'.output=W.output
 size:W.heap.size≤W'.heap.size
 rest:∀b,b<W.heap.size→¬S b→¬X b→W'.heap[b]? =W.heap[b]?
 shape:Shp S W W'
 ok:TW S' W'
theorem TW.lt {S:BS}{W:World}(h:TW S W){b:Nat}(hb:S b):b<W.heap.size:=by
 obtain⟨c,e,hc,-⟩:=h b hb;exact hc.lt
theorem Ev.refl {X S:BS}{W:World}(h:TW S W):Ev X S W S W:=⟨fun _ h=>h,fun _ h=> .inl h,rfl,rfl,rfl,yR _,fun _ _ _ _=>rfl,Shp.refl _ _,h⟩
theorem Ev.trans {X S S1 S2:BS}{W W1 W2:World}(h1:Ev X S W S1 W1)(h2:Ev X S1 W1 S2 W2):Ev X S W S2 W2 :=
 ⟨fun b h=>h2.sub b (h1.sub b h),fun b h=>by
  rcases h2.new b h with h|h
  ·exact h1.new b h
  ·exact .inr (Nat.le_trans h1.size h),h2.os.trans h1.os,h2.tape.trans h1.tape,h2.output.trans h1.output,Nat.le_trans h1.size h2.size,fun b hb hn hx=>by
  have hn1:¬S1 b:=fun h=>by
   rcases h1.new b h with h|h
   ·exact hn h
   ·omega
  exact (h2.rest b (Nat.lt_of_lt_of_le hb h1.size) hn1 hx).trans (h1.rest b hb hn hx),h1.shape.trans h2.shape h1.sub,h2.ok⟩
theorem Ev.below {X S S':BS}{W W':World}(h:Ev X S W S' W'){n:Nat}(hS:∀b,S b→n≤b)(hX:∀b,X b→n≤b)(hn:n≤W.heap.size):Below n W W' :=
 ⟨h.os,h.tape,h.output,h.size,fun b hb=>h.rest b (by omega) (fun hs=>by have:=hS b hs;omega) (fun hs=>by have:=hX b hs;omega)⟩
theorem Ev.sl {X S S':BS}{W W':World}(h:Ev X S W S' W'){e:TypeId}{v:Value}{n:Nat}(hs:SL S W e v n):SL S' W' e v n:=hs.mono h.sub h.shape
theorem Ev.ct {X S S':BS}{W W':World}(h:Ev X S W S' W'){ct:CT}{v:Value}(hs:ct.ok S W v):ct.ok S' W' v:=hs.mono h.sub h.shape
theorem Ev.blk {X S S':BS}{W W':World}(h:Ev X S W S' W'){b:Nat}{c:Array Value}{t:TypeId}(hb:Blk W b c t)(hn:¬S b)(hx:¬X b):Blk W' b c t:=(h.rest b hb.lt hn hx).trans hb
theorem Ev.not {X S S':BS}{W W':World}(h:Ev X S W S' W'){b:Nat}(hb:b<W.heap.size)(hn:¬S b):¬S' b:=fun hs=>by
 rcases h.new b hs with h|h
 ·exact hn h
 ·omega
theorem Ev.of_grown {X S:BS}{W W':World}{row:Option Nat}(hT:TW S W)(hg:W.grownBy W' row)(hr:∀r,row=some r→¬S r∧X r):Ev X S W S W':=by
 have hsame:∀b,S b→W'.heap[b]? =W.heap[b]? :=fun b hb=>hg.block b (hT.lt hb) (fun e=>(hr b e.symm).1 hb)
 have hsh:Shp S W W':=fun b c e hb hc=>⟨c,(hsame b hb).trans hc,rfl⟩
 refine⟨fun _ h=>h,fun _ h=> .inl h,hg.os,hg.tape,hg.output,hg.size,fun b hb _ hx=>hg.block b hb (fun e=>hx (hr b e.symm).2),hsh,fun b hb=> ?_⟩;obtain⟨c,e,hc,ht⟩:=hT b hb;exact⟨c,e,(hsame b hb).trans hc,ht.mono (fun _ h=>h) hsh⟩
theorem Ev.of_below {X S:BS}{W W':World}(hT:TW S W)(h:Below W.heap.size W W'):Ev X S W S W':=Ev.of_grown hT (a2u h) (fun r e=>by cases e)
theorem Ev.drew {X S:BS}{W:World}(hT:TW S W):Ev X S W S W.drew:=Ev.of_grown hT (b8w W) (fun r e=>by cases e)
theorem TW.of_same {S:BS}{W W':World}(hT:TW S W)(h:∀b,S b→W'.heap[b]? =W.heap[b]?):TW S W':=by
 have hsh:Shp S W W':=fun b c e hb hc=>⟨c,(h b hb).trans hc,rfl⟩
 intro b hb;obtain⟨c,e,hc,ht⟩:=hT b hb;exact⟨c,e,(h b hb).trans hc,ht.mono (fun _ h=>h) hsh⟩
theorem TW.none (W:World):TW (fun _=>False) W:=fun _ h=>h.elim
theorem Ev.alloc {X S:BS}{W:World}(hT:TW S W){c:Array Value}{e:TypeId}(hc:TB S W e c):Ev X S W (fun b=>S b∨b=W.heap.size) (W.alloc (.cells c e)):=by
 have hsh:Shp S W (W.alloc (.cells c e)):=fun b c' e' hb hc'=>⟨c',hc'.alloc _,rfl⟩
 refine⟨fun _ h=> .inl h,fun b h=>by rcases h with h|rfl;exact .inl h;exact .inr (yR _),rfl,rfl,rfl,by simp,fun b hb _ _=>(World.grownBy_alloc W _ none).block b hb (by simp),hsh,fun b hb=> ?_⟩;rcases hb with hb|rfl
 ·obtain⟨c',e',hc',ht⟩:=hT b hb
  exact⟨c',e',hc'.alloc _,ht.mono (fun _ h=> .inl h) hsh⟩
 ·exact⟨c,e,Blk.new W c e,hc.mono (fun _ h=> .inl h) hsh⟩
theorem Ev.set {X S:BS}{W:World}(hT:TW S W){b:Nat}{c:Array Value}{e:TypeId}(hb:S b)(hc:Blk W b c e)(i:Nat)(v:Value)(hv:∀ct,(a2r e)[i % a6y e]? =some ct→ct.ok S W v):Ev X S W S (W.setCell ⟨b,i,none⟩ v):=by
 have hsh:Shp S W (W.setCell ⟨b,i,none⟩ v):=fun b' c' e' hb' hc'=>by
  by_cases h:b'=b
  ·subst h
   obtain⟨rfl,rfl⟩:c'=c∧e'=e:=by
    unfold Blk at hc hc';rw[hc] at hc'
    cases hc';exact⟨rfl,rfl⟩
   exact⟨_,hc'.set i v,by simp⟩
  ·exact⟨c',hc'.other h i v,rfl⟩
 refine⟨fun _ h=>h,fun _ h=> .inl h,rfl,rfl,rfl,by simp,fun b' _ hn _=>Below.heap_setCell _ _ _ _ (fun e=>hn (by simp at e;exact e▸hb)),hsh,fun b' hb'=> ?_⟩;by_cases h:b'=b
 ·subst h
  obtain⟨c0,e0,hc0,ht⟩:=hT b' hb';obtain⟨rfl,rfl⟩:c0=c∧e0=e:=by
   unfold Blk at hc hc0;rw[hc] at hc0
   cases hc0;exact⟨rfl,rfl⟩
  refine⟨_,e0,hc0.set i v,fun j u ct h1 h2=> ?_⟩;rw[Array.getElem?_setIfInBounds] at h1;split at h1
  ·rename_i hij
   subst hij;split at h1
   ·cases h1
    exact (hv ct h2).mono (fun _ h=>h) hsh
   ·cases h1
  ·exact (ht j u ct h1 h2).mono (fun _ h=>h) hsh
 ·obtain⟨c0,e0,hc0,ht⟩:=hT b' hb'
  exact⟨c0,e0,hc0.other h i v,ht.mono (fun _ h=>h) hsh⟩
theorem Ev.setCells {X S:BS}{b:Nat}{e:TypeId}(hb:S b):∀(vs:List Value)(o:Nat)(W:World)(c:Array Value),TW S W→Blk W b c e→(∀j u ct,vs[j]? =some u→(a2r e)[(o+j) % a6y e]? =some ct→ct.ok S W u)→Ev X S W S (W.setCells b o vs)
 |[],o,W,c,hT,hc,hv=>Ev.refl hT
 |v::r,o,W,c,hT,hc,hv=>by
  have h1:=Ev.set (X:=X) hT hb hc o v (fun ct h=>hv 0 v ct rfl (by simpa using h));exact h1.trans (Ev.setCells hb r (o+1) _ _ h1.ok (hc.set o v) (fun j u ct h2 h3=>h1.ct (hv (j+1) u ct (by simpa using h2) (by rw[show o+(j+1)=o+1+j from by omega];exact h3))))
structure ET (e:TypeId)(s:Nat):Prop where
 size:a6y e=s
 pos:0<s
 info:∃i z,prog.info? e=some i∧i.zero=some z∧i.size=s∧i.bytes≤1000∧z.cells.size=s∧∀S W (j:Nat) u ct,z.cells[j]? =some u→(a2r e)[j]? =some ct→CT.ok S W ct u
theorem CT.ok.one {S:BS}{W:World}{ct:CT}{u:Value}(h:ct.ok S W u):u.oneCell'=true:=by
 have hk:=h.lt;rcases (show ct.k=0∨ct.k=1∨ct.k=2∨ct.k=3∨ct.k=4 from by omega) with e|e|e|e|e
 ·obtain⟨x,rfl,-⟩:=h.i e;rfl
 ·obtain⟨x,rfl,-⟩:=h.s e;rfl
 ·obtain⟨x,rfl⟩:=h.b e;rfl
 ·obtain⟨n,-,a,cap,rfl,-⟩:=h.l e;rfl
 ·obtain⟨x,rfl⟩:=h.a e;rfl
theorem SL.cells {S:BS}{W:World}{e:TypeId}{v:Value}{n s:Nat}(hT:TW S W)(he:ET e s)(h:SL S W e v n):∃(a:Option Addr)(cap:Nat)(news:List Value),v= .slice a n cap∧n≤cap∧news.length=n*s∧(∀j u,news[j]? =some u→∃ad,a=some ad∧W.cell? (ad.add j)=some u)∧(∀j u ct,news[j]? =some u→(a2r e)[j % s]? =some ct→ct.ok S W u)∧(∀u∈news,u.oneCell'=true)∧(a=none→n=0):=by
 have hs:=he.size;have hp:=he.pos;obtain⟨a,cap,rfl,hn,⟨rfl,rfl⟩|⟨b,o,c,rfl,hb,hc,hl⟩⟩:=h
 ·obtain rfl:n=0:=by omega
  exact⟨none,0,[],rfl,yR _,by simp,by simp,by simp,by simp,fun _=>rfl⟩
 ·rw[hs] at hl ⊢
  obtain⟨c0,e0,hc0,ht⟩:=hT b hb;obtain⟨rfl,rfl⟩:c0=c∧e0=e:=by
   unfold Blk at hc hc0;rw[hc] at hc0
   cases hc0;exact⟨rfl,rfl⟩
  have hle:(o+n)*s≤c0.size:=Nat.le_trans (Nat.mul_le_mul_right s (by omega)) hl;rw[Nat.add_mul] at hle;have hget:∀j u,((c0.toList.drop (o*s)).take (n*s))[j]? =some u→c0[o*s+j]? =some u:=fun j u h=>by
   rw[List.getElem?_take] at h;split at h
   ·rw[List.getElem?_drop] at h
    simpa using h
   ·cases h
  have hty:∀j u ct,((c0.toList.drop (o*s)).take (n*s))[j]? =some u→(a2r e0)[j % s]? =some ct→ct.ok S W u:=fun j u ct h1 h2 =>
   ht (o*s+j) u ct (hget j u h1) (by rw[hs,Nat.mul_comm,Nat.mul_add_mod];exact h2)
  refine⟨_,cap,(c0.toList.drop (o*s)).take (n*s),rfl,hn,by simp;omega,fun j u hj=>⟨_,rfl,?_⟩,hty,fun u hu=> ?_,fun h=>by cases h⟩
  ·rw[Go.WideShapes.add_plain]
   exact (hc.cell _).trans (hget j u hj)
  ·obtain⟨j,hj,rfl⟩:=List.getElem_of_mem hu
   have hm:j % s<(a2r e0).length:=by rw[show (a2r e0).length=s from hs];exact Nat.mod_lt _ hp
   exact (hty j _ _ (List.getElem?_eq_getElem hj) (List.getElem?_eq_getElem hm)).one
theorem c5g {X S:BS}{W:World}(hT:TW S W){t e ty:TypeId}{s:Nat}(ht:prog.underlying t=some (.slice e))(he:ET e s){sv xv:Value}{n m:Nat}(hv:SL S W e sv n)(hx:SL S W e xv m)(hl:n+m≤1000000) :
 ∃v' S' W',(Builtin.append_ #[t,t] ty #[sv,xv]).run prog W= .ok v' W'∧SL S' W' e v' (n+m)∧Ev X S W S' W':=by
 obtain⟨i,z,hi,hz,hsz,hby,hzs,hzt⟩:=he.info;have hp:=he.pos;have hss:=he.size;obtain⟨xa,xc,news,rfl,hxn,hnl,hnc,hnt,hn1,hx0⟩:=hx.cells hT he;have hsrc:Src prog i.size t (.slice xa m xc) m news W:=by
  cases xa with
  |none =>
   obtain rfl:=hx0 rfl;obtain rfl:news=[]:=List.eq_nil_of_length_eq_zero (by simpa using hnl);exact Src.ofNil W ht xc
  |some ad=>exact Src.ofSlice W ht ad m xc news (by rw[hsz];exact hnl) (fun j u hj=>by obtain⟨ad',h,hc⟩:=hnc j u hj;cases h;exact hc) hn1
 have hv':=hv;obtain⟨a,cap,olds,rfl,hnc',hol,hoc,hot,ho1,ha0⟩:=hv.cells hT he;by_cases hroom:n+m≤cap
 ·obtain⟨a2,cap2,h2,-,h3⟩:=hv'
  cases h2;rcases h3 with ⟨rfl,rfl⟩|⟨b,o,c,rfl,hb,hc,hcl⟩
  ·obtain rfl:n=0:=by omega
   obtain rfl:m=0:=by omega
   refine⟨.slice none 0 0,S,W,?_,⟨none,0,rfl,yR _,.inl ⟨rfl,rfl⟩⟩,Ev.refl hT⟩;simp[Builtin.append_,run_underlying ht,sizeOf,typeInfo,hi,hsrc.len,hsrc.cells]
  ·rw[hss] at hcl ⊢
   have hmul:(n+m)*s≤cap*s:=Nat.mul_le_mul_right s hroom;rw[Nat.add_mul] at hmul hcl;have hcell:∀j,j<news.length→(W.cell? ⟨b,o*s+n*i.size+j,none⟩).isSome=true:=fun j hj=>by
    rw[hc.cell,hsz,Array.getElem?_eq_getElem (by omega)];rfl
   have hr:=run_append_room_src (P:=prog) W t t ty e i ht hi b (o*s) n cap (.slice xa m xc) m news hsrc hroom hcell (fun j hj=>hc.frozen _);refine⟨_,S,_,hr,?_,?_⟩
   ·have hE:=Ev.setCells (X:=X) hb news (o*s+n*i.size) W c hT hc (fun j u ct h1 h2=>hnt j u ct h1 (by
     rw[hss,hsz,←Nat.add_mul,Nat.mul_comm,Nat.mul_add_mod] at h2;exact h2))
    exact hE.sl ⟨_,cap,rfl,hroom,.inr ⟨b,o,c,by rw[hss],hb,hc,by rw[hss,Nat.add_mul];omega⟩⟩
   ·exact Ev.setCells hb news (o*s+n*i.size) W c hT hc (fun j u ct h1 h2=>hnt j u ct h1 (by
     rw[hss,hsz,←Nat.add_mul,Nat.mul_comm,Nat.mul_add_mod] at h2;exact h2))
 ·have hold:(Builtin.firstCells i.size n (.slice a n cap)).run prog W.drew= .ok olds.toArray W.drew:=by
   cases a with
   |none =>
    obtain rfl:=ha0 rfl;obtain rfl:olds=[]:=List.eq_nil_of_length_eq_zero (by simpa using hol);exact run_firstCells_none W.drew _ _ _ _
   |some ad=>exact run_firstCells_some W.drew i.size n ad n cap olds (by rw[hsz];exact hol) (fun j u hj=>by obtain⟨ad',h,hc⟩:=hoc j u hj;cases h;simpa using hc)
  have hge:=grownCap_ge W (n+m) cap e;have hcap:Builtin.nextslicecap (n+m) cap*i.bytes≤281474976710656:=growslice_fits (by omega) (Nat.le_trans (Nat.mul_le_mul hl hby) (by decide));have hr:=run_append_grow_src (P:=prog) W t t ty e i z ht hi hz a n cap olds hold (.slice xa m xc) m news hsrc (by omega) (by omega) hcap;have hTd:=(Ev.drew (X:=X) hT).ok;have hdr:=Ev.drew (X:=X) hT;have hB:TB S W.drew e ((olds++news).toArray++Builtin.zeroCells z.cells (grownCap W (n+m) cap e-(n+m))):=by
   intro j u ct h1 h2;rw[hss] at h2;rw[Array.getElem?_append] at h1;split at h1
   ·rw[List.getElem?_toArray,List.getElem?_append] at h1
    split at h1
    ·exact hdr.ct (hot j u ct h1 h2)
    ·rename_i h3 h4
     refine hdr.ct (hnt _ u ct h1 ?_);rw[hol] at h4 ⊢;have:(j-n*s) % s=j % s:=by
      conv=>rhs;rw[show j=(j-n*s)+s*n from by rw[Nat.mul_comm s n];omega]
      rw[Nat.add_mul_mod_self_left]
     rw[this];exact h2
   ·rename_i h3
    simp only[List.size_toArray,List.length_append,hol,hnl,←Nat.add_mul] at h1 h3;unfold Builtin.zeroCells at h1;rw[Array.getElem?_map] at h1;obtain⟨k,hk,rfl⟩:=Option.map_eq_some_iff.1 h1;obtain⟨hk1,hk2⟩:=Array.getElem?_eq_some_iff.1 hk;simp only[Array.getElem_range] at hk2;have hm:(j-(n+m)*s) % s=j % s:=by
     conv=>rhs;rw[show j=(j-(n+m)*s)+s*(n+m) from by rw[Nat.mul_comm s];omega]
     rw[Nat.add_mul_mod_self_left]
    rw[←hk2,hzs,hm];have hlt:j % s<z.cells.size:=by rw[hzs];exact Nat.mod_lt _ hp
    refine hzt S _ (j % s) _ ct ?_ h2;rw[getElem!_pos z.cells (j % s) hlt,Array.getElem?_eq_getElem hlt]
  have hA:=Ev.alloc (X:=X) hTd hB;refine⟨_,_,_,hr,?_,hdr.trans hA⟩;refine⟨_,_,rfl,hge,.inr ⟨W.heap.size,0,_,by rw[Nat.zero_mul],.inr rfl,Blk.new W.drew _ _,?_⟩⟩;rw[hss,Nat.zero_add];simp only[Array.size_append,List.size_toArray,List.length_append,hol,hnl,size_zeroCells,hzs,←Nat.add_mul];exact Nat.mul_le_mul_right s (by omega)
theorem a9i {X S:BS}{w:World}(hT:TW S w){o:Oper}{a:Act}{K:Act→World→Prop}{Q:Exit→Act→World→Prop}(sO xO:Operand)(t:TypeId)(ho:o.op= .call { callee:= .builtin .append,args:= #[sO,xO],argTypes:= #[t,t] })
 {e:TypeId} {s:Nat} (ht:prog.underlying t=some (.slice e)) (he:ET e s) {sv xv:Value} {n m:Nat} (hsv:a.eval sO=sv) (hv:SL S w e sv n) (hxv:a.eval xO=xv) (hx:SL S w e xv m) (hl:n+m≤1000000)
 (h:∀v' S' w',SL S' w' e v' (n+m)→Ev X S w S' w'→K (a.put o.dst v') w'):Oper.wp prog o a w K Q:=by
 obtain⟨v',S',w',hr,h2,h3⟩:=c5g (X:=X) hT (ty:=o.type) ht he hv hx hl;unfold Oper.wp execOp;simp only[ho,resolve,invoke,builtin,Sem.run_bind,Sem.run_pure,Result.andThen_ok,List.map_toArray,List.map_cons,List.map_nil,hsv,hxv,hr];exact h v' S' w' h2 h3
theorem a1b {X S:BS}{w:World}(hT:TW S w){ops:Array Oper}{rest:List Oper}{o:Oper}{a:Act}{Q:Exit→Act→World→Prop}(hgd:o.guard=none)(sO xO:Operand)(t:TypeId)(ho:o.op= .call { callee:= .builtin .append,args:= #[sO,xO],argTypes:= #[t,t] })
 {e:TypeId} {s:Nat} (ht:prog.underlying t=some (.slice e)) (he:ET e s) {sv xv:Value} {n m:Nat} (hsv:a.eval sO=sv) (hv:SL S w e sv n) (hxv:a.eval xO=xv) (hx:SL S w e xv m) (hl:n+m≤1000000)
 (h:∀v' S' w',SL S' w' e v' (n+m)→Ev X S w S' w'→wpList prog ops Q rest (a.put o.dst v') w'):wpList prog ops Q (o::rest) a w :=
 wpList_plain hgd fun _ hK=>a9i hT sO xO t ho ht he hsv hv hxv hx hl fun v' S' w' h2 h3=>hK _ _ (h v' S' w' h2 h3)
end
end Go.Proofs.YtfocdbjceedagaaGreatDoor
