/-
  Parts.
-/
import Derived.Test.YtfocdbjceedagaaGreatDoorCah
import Derived.Sort.LotA
set_option linter.unusedVariables false
set_option linter.unusedSimpArgs false
set_option maxHeartbeats 4000000
set_option maxRecDepth 100000
namespace Go.Proofs.YtfocdbjceedagaaGreatDoor
open Tryz
section
open Go.RowKit Go.Shelf
variable {n₀ K:Nat}{w W W':Wd}{sv v:Vu}{xs:List Int}{ys:List Wy}
theorem b3b {W:Wd}{b1 b2:Nat}{e1 e2:Td}{s1 s2 k1 k2:Nat}{v1 v2:Vu}{x1 x2:List Value}(h1:W.ownsRow b1 e1 s1 v1 k1 x1)(h2:W.ownsRow b2 e2 s2 v2 k2 x2)(av:e1≠e2):∀r,v2.ownBlock=some r->v1.ownBlock≠some r:=by
 intro r hr cK;rcases h1.2 with⟨rfl,_⟩|⟨g,cap,cur,rfl,_,ik,_⟩
 ·cases cK
 ·rcases h2.2 with⟨rfl,_⟩|⟨g',aI,cur',rfl,_,hgb',_⟩
  ·cases hr
  ·cases hr
   cases cK;rw[ik]at hgb'
   cases hgb';exact av rfl
theorem a5n {W W':Wd}{b1:Nat}{e1:Td}{s1 k1:Nat}{v1:Vu}{x1:List Value}{row:Option Nat}(h1:W.ownsRow b1 e1 s1 v1 k1 x1)(hg:W.grownBy W' row)(hr:∀r,row=some r->v1.ownBlock≠some r):W'.ownsRow b1 e1 s1 v1 k1 x1:=by
 refine h1.kept hg ?_;rcases h1.2 with⟨rfl,_⟩|⟨g,cap,cur,rfl,_⟩
 ·exact .inl rfl
 ·exact .inr λe'=>hr g (by simpa[Value.ownBlock]using e'.symm) rfl
theorem b9p {W:Wd}{b1 B:Nat}{e1 t:Td}{s1 k1:Nat}{v1:Vu}{x1:List Value}{c:Array Value}(h1:W.ownsRow b1 e1 s1 v1 k1 x1)(hB:Blk W B c t)(av:e1≠t):v1.ownBlock≠some B :=
 a0n h1 hB (λe=>av e.symm)
variable {B:Nat}{id lvl wt:Int}{lv:Vu}{stb:Bool}{ps:List a0l}
end
section
open Go.RowKit Go.Shelf
def b8l :Array Value:= #[.int .i64 1,.int .i64 3,.int .i64 9,.int .i64 25,.int .i64 17,.int .i64 11,.int .i64 27,.int .i64 19,.int .i64 10,.int .i64 26,.int .i64 5,.int .i64 7,.int .i64 13,.int .i64 29,.int .i64 21,.int .i64 15,.int .i64 31,.int .i64 23,.int .i64 14,.int .i64 30,.int .i64 37,.int .i64 39,.int .i64 58,.int .i64 45,.int .i64 61,.int .i64 53]
def c5m (c n:Nat):Bool:=c / 2 ^ n % 2==1
theorem e2j (w:Wd):Zc prog 66 #[.int .u8 60] w (.agg #[.bool false,.bool false,.bool true,.bool true,.bool true,.bool true]):=by
 have q0:bits BinOp.and IntKind.u8 60 1=0:=by decide +kernel
 have q1:bits BinOp.and IntKind.u8 60 2=0:=by decide +kernel
 have q2:bits BinOp.and IntKind.u8 60 4=4:=by decide +kernel
 have q3:bits BinOp.and IntKind.u8 60 8=8:=by decide +kernel
 have q4:bits BinOp.and IntKind.u8 60 16=16:=by decide +kernel
 have q5:bits BinOp.and IntKind.u8 60 32=32:=by decide +kernel
 go_enter func66,ntmps66;go_wp2_with fail;refine wp_loop_rounds 7 ?_;(iterate 7 (rw[rounds_succ];go_wp2_with fail));exact bodyPost_ret (v:= .agg #[.bool false,.bool false,.bool true,.bool true,.bool true,.bool true]) (by simp[results,results66,go_sem]) rfl ⟨rfl,zC⟩
theorem e2k (w:Wd):Zc prog 66 #[.int .u8 26] w (.agg #[.bool false,.bool true,.bool false,.bool true,.bool true,.bool false]):=by
 have q0:bits BinOp.and IntKind.u8 26 1=0:=by decide +kernel
 have q1:bits BinOp.and IntKind.u8 26 2=2:=by decide +kernel
 have q2:bits BinOp.and IntKind.u8 26 4=0:=by decide +kernel
 have q3:bits BinOp.and IntKind.u8 26 8=8:=by decide +kernel
 have q4:bits BinOp.and IntKind.u8 26 16=16:=by decide +kernel
 have q5:bits BinOp.and IntKind.u8 26 32=0:=by decide +kernel
 go_enter func66,ntmps66;go_wp2_with fail;refine wp_loop_rounds 7 ?_;(iterate 7 (rw[rounds_succ];go_wp2_with fail));exact bodyPost_ret (v:= .agg #[.bool false,.bool true,.bool false,.bool true,.bool true,.bool false]) (by simp[results,results66,go_sem]) rfl ⟨rfl,zC⟩
theorem e4g (w:Wd):Zc prog 66 #[.int .u8 1] w (.agg #[.bool true,.bool false,.bool false,.bool false,.bool false,.bool false]):=by
 have q0:bits BinOp.and IntKind.u8 1 1=1:=by decide +kernel
 have q1:bits BinOp.and IntKind.u8 1 2=0:=by decide +kernel
 have q2:bits BinOp.and IntKind.u8 1 4=0:=by decide +kernel
 have q3:bits BinOp.and IntKind.u8 1 8=0:=by decide +kernel
 have q4:bits BinOp.and IntKind.u8 1 16=0:=by decide +kernel
 have q5:bits BinOp.and IntKind.u8 1 32=0:=by decide +kernel
 go_enter func66,ntmps66;go_wp2_with fail;refine wp_loop_rounds 7 ?_;(iterate 7 (rw[rounds_succ];go_wp2_with fail));exact bodyPost_ret (v:= .agg #[.bool true,.bool false,.bool false,.bool false,.bool false,.bool false]) (by simp[results,results66,go_sem]) rfl ⟨rfl,zC⟩
theorem e4h (w:Wd):Zc prog 66 #[.int .u8 3] w (.agg #[.bool true,.bool true,.bool false,.bool false,.bool false,.bool false]):=by
 have q0:bits BinOp.and IntKind.u8 3 1=1:=by decide +kernel
 have q1:bits BinOp.and IntKind.u8 3 2=2:=by decide +kernel
 have q2:bits BinOp.and IntKind.u8 3 4=0:=by decide +kernel
 have q3:bits BinOp.and IntKind.u8 3 8=0:=by decide +kernel
 have q4:bits BinOp.and IntKind.u8 3 16=0:=by decide +kernel
 have q5:bits BinOp.and IntKind.u8 3 32=0:=by decide +kernel
 go_enter func66,ntmps66;go_wp2_with fail;refine wp_loop_rounds 7 ?_;(iterate 7 (rw[rounds_succ];go_wp2_with fail));exact bodyPost_ret (v:= .agg #[.bool true,.bool true,.bool false,.bool false,.bool false,.bool false]) (by simp[results,results66,go_sem]) rfl ⟨rfl,zC⟩
theorem e4i (w:Wd):Zc prog 66 #[.int .u8 9] w (.agg #[.bool true,.bool false,.bool false,.bool true,.bool false,.bool false]):=by
 have q0:bits BinOp.and IntKind.u8 9 1=1:=by decide +kernel
 have q1:bits BinOp.and IntKind.u8 9 2=0:=by decide +kernel
 have q2:bits BinOp.and IntKind.u8 9 4=0:=by decide +kernel
 have q3:bits BinOp.and IntKind.u8 9 8=8:=by decide +kernel
 have q4:bits BinOp.and IntKind.u8 9 16=0:=by decide +kernel
 have q5:bits BinOp.and IntKind.u8 9 32=0:=by decide +kernel
 go_enter func66,ntmps66;go_wp2_with fail;refine wp_loop_rounds 7 ?_;(iterate 7 (rw[rounds_succ];go_wp2_with fail));exact bodyPost_ret (v:= .agg #[.bool true,.bool false,.bool false,.bool true,.bool false,.bool false]) (by simp[results,results66,go_sem]) rfl ⟨rfl,zC⟩
theorem e2l (w:Wd):Zc prog 66 #[.int .u8 25] w (.agg #[.bool true,.bool false,.bool false,.bool true,.bool true,.bool false]):=by
 have q0:bits BinOp.and IntKind.u8 25 1=1:=by decide +kernel
 have q1:bits BinOp.and IntKind.u8 25 2=0:=by decide +kernel
 have q2:bits BinOp.and IntKind.u8 25 4=0:=by decide +kernel
 have q3:bits BinOp.and IntKind.u8 25 8=8:=by decide +kernel
 have q4:bits BinOp.and IntKind.u8 25 16=16:=by decide +kernel
 have q5:bits BinOp.and IntKind.u8 25 32=0:=by decide +kernel
 go_enter func66,ntmps66;go_wp2_with fail;refine wp_loop_rounds 7 ?_;(iterate 7 (rw[rounds_succ];go_wp2_with fail));exact bodyPost_ret (v:= .agg #[.bool true,.bool false,.bool false,.bool true,.bool true,.bool false]) (by simp[results,results66,go_sem]) rfl ⟨rfl,zC⟩
theorem e2m (w:Wd):Zc prog 66 #[.int .u8 17] w (.agg #[.bool true,.bool false,.bool false,.bool false,.bool true,.bool false]):=by
 have q0:bits BinOp.and IntKind.u8 17 1=1:=by decide +kernel
 have q1:bits BinOp.and IntKind.u8 17 2=0:=by decide +kernel
 have q2:bits BinOp.and IntKind.u8 17 4=0:=by decide +kernel
 have q3:bits BinOp.and IntKind.u8 17 8=0:=by decide +kernel
 have q4:bits BinOp.and IntKind.u8 17 16=16:=by decide +kernel
 have q5:bits BinOp.and IntKind.u8 17 32=0:=by decide +kernel
 go_enter func66,ntmps66;go_wp2_with fail;refine wp_loop_rounds 7 ?_;(iterate 7 (rw[rounds_succ];go_wp2_with fail));exact bodyPost_ret (v:= .agg #[.bool true,.bool false,.bool false,.bool false,.bool true,.bool false]) (by simp[results,results66,go_sem]) rfl ⟨rfl,zC⟩
theorem e2n (w:Wd):Zc prog 66 #[.int .u8 11] w (.agg #[.bool true,.bool true,.bool false,.bool true,.bool false,.bool false]):=by
 have q0:bits BinOp.and IntKind.u8 11 1=1:=by decide +kernel
 have q1:bits BinOp.and IntKind.u8 11 2=2:=by decide +kernel
 have q2:bits BinOp.and IntKind.u8 11 4=0:=by decide +kernel
 have q3:bits BinOp.and IntKind.u8 11 8=8:=by decide +kernel
 have q4:bits BinOp.and IntKind.u8 11 16=0:=by decide +kernel
 have q5:bits BinOp.and IntKind.u8 11 32=0:=by decide +kernel
 go_enter func66,ntmps66;go_wp2_with fail;refine wp_loop_rounds 7 ?_;(iterate 7 (rw[rounds_succ];go_wp2_with fail));exact bodyPost_ret (v:= .agg #[.bool true,.bool true,.bool false,.bool true,.bool false,.bool false]) (by simp[results,results66,go_sem]) rfl ⟨rfl,zC⟩
theorem e2o (w:Wd):Zc prog 66 #[.int .u8 27] w (.agg #[.bool true,.bool true,.bool false,.bool true,.bool true,.bool false]):=by
 have q0:bits BinOp.and IntKind.u8 27 1=1:=by decide +kernel
 have q1:bits BinOp.and IntKind.u8 27 2=2:=by decide +kernel
 have q2:bits BinOp.and IntKind.u8 27 4=0:=by decide +kernel
 have q3:bits BinOp.and IntKind.u8 27 8=8:=by decide +kernel
 have q4:bits BinOp.and IntKind.u8 27 16=16:=by decide +kernel
 have q5:bits BinOp.and IntKind.u8 27 32=0:=by decide +kernel
 go_enter func66,ntmps66;go_wp2_with fail;refine wp_loop_rounds 7 ?_;(iterate 7 (rw[rounds_succ];go_wp2_with fail));exact bodyPost_ret (v:= .agg #[.bool true,.bool true,.bool false,.bool true,.bool true,.bool false]) (by simp[results,results66,go_sem]) rfl ⟨rfl,zC⟩
theorem e2p (w:Wd):Zc prog 66 #[.int .u8 19] w (.agg #[.bool true,.bool true,.bool false,.bool false,.bool true,.bool false]):=by
 have q0:bits BinOp.and IntKind.u8 19 1=1:=by decide +kernel
 have q1:bits BinOp.and IntKind.u8 19 2=2:=by decide +kernel
 have q2:bits BinOp.and IntKind.u8 19 4=0:=by decide +kernel
 have q3:bits BinOp.and IntKind.u8 19 8=0:=by decide +kernel
 have q4:bits BinOp.and IntKind.u8 19 16=16:=by decide +kernel
 have q5:bits BinOp.and IntKind.u8 19 32=0:=by decide +kernel
 go_enter func66,ntmps66;go_wp2_with fail;refine wp_loop_rounds 7 ?_;(iterate 7 (rw[rounds_succ];go_wp2_with fail));exact bodyPost_ret (v:= .agg #[.bool true,.bool true,.bool false,.bool false,.bool true,.bool false]) (by simp[results,results66,go_sem]) rfl ⟨rfl,zC⟩
theorem e2q (w:Wd):Zc prog 66 #[.int .u8 10] w (.agg #[.bool false,.bool true,.bool false,.bool true,.bool false,.bool false]):=by
 have q0:bits BinOp.and IntKind.u8 10 1=0:=by decide +kernel
 have q1:bits BinOp.and IntKind.u8 10 2=2:=by decide +kernel
 have q2:bits BinOp.and IntKind.u8 10 4=0:=by decide +kernel
 have q3:bits BinOp.and IntKind.u8 10 8=8:=by decide +kernel
 have q4:bits BinOp.and IntKind.u8 10 16=0:=by decide +kernel
 have q5:bits BinOp.and IntKind.u8 10 32=0:=by decide +kernel
 go_enter func66,ntmps66;go_wp2_with fail;refine wp_loop_rounds 7 ?_;(iterate 7 (rw[rounds_succ];go_wp2_with fail));exact bodyPost_ret (v:= .agg #[.bool false,.bool true,.bool false,.bool true,.bool false,.bool false]) (by simp[results,results66,go_sem]) rfl ⟨rfl,zC⟩
theorem e0g (c:Nat)(h:c=60\/c=26\/c=1\/c=3\/c=9\/c=25\/c=17\/c=11\/c=27\/c=19\/c=10)(w:Wd):Zc prog 66 #[.int .u8 c] w (.agg #[.bool (c5m c 0),.bool (c5m c 1),.bool (c5m c 2),.bool (c5m c 3),.bool (c5m c 4),.bool (c5m c 5)]):=by
 rcases h with rfl|rfl|rfl|rfl|rfl|rfl|rfl|rfl|rfl|rfl|rfl
 ·exact e2j w
 ·exact e2k w
 ·exact e4g w
 ·exact e4h w
 ·exact e4i w
 ·exact e2l w
 ·exact e2m w
 ·exact e2n w
 ·exact e2o w
 ·exact e2p w
 ·exact e2q w
def a6b :List Dt->Dt->List Dt
 |[],x=>[x]
 |d::l,x=>if ltS (d.x,d.y) (x.x,x.y)then d::a6b l x else if(d.x,d.y)=(x.x,x.y)then(if x.i<d.i then⟨d.x,d.y,d.k,x.i⟩else d)::l else x::d::l
def d0b :List a0l->a0l->List a0l
 |[],p=>[p]
 |q::ks,p=>if ltS q p then q::d0b ks p else if q=p then q::ks else p::q::ks
theorem a4j (p:a0l):ltS p p=false:=by simp[ltS]
theorem b3c {p q r:a0l}(h1:ltS p q=true)(h2:ltS q r=true):ltS p r=true:=by simp[ltS]at *;omega
theorem c2r {p q:a0l}(h1:ltS p q=false)(h2:¬p=q):ltS q p=true:=by
 obtain⟨a,b⟩:=p;obtain⟨c,d⟩:=q;simp[ltS]at *;omega
theorem b6t (p q:a0l):∀ks:List a0l,q∈d0b ks p↔q=p\/q∈ks
 |[]=>by simp[d0b]
 |a::ks=>by
  unfold d0b;split
  ·simp only[List.mem_cons,b6t p q ks]
   constructor
   ·rintro(h|h|h) <;> simp[h]
   ·rintro(h|h|h) <;> simp[h]
  ·split
   ·rename_i h;subst h;simp
   ·simp
theorem b3d (p:a0l):∀ {ks:List a0l},ks.Pairwise (λa b=>ltS a b=true)->(d0b ks p).Pairwise (λa b=>ltS a b=true)
 |[],_=>by simp[d0b]
 |a::ks,h=>by
  rw[List.pairwise_cons]at h;unfold d0b;split
  ·rename_i h1
   rw[List.pairwise_cons];refine⟨λb hb=> ?_,b3d p h.2⟩;rcases(b6t p b ks).1 hb with rfl|hb
   ·exact h1
   ·exact h.1 b hb
  ·rename_i h1
   split
   ·exact List.pairwise_cons.2 h
   ·rename_i h2
    have h3:=c2r (by simpa using h1) h2;rw[List.pairwise_cons];refine⟨λb hb=> ?_,List.pairwise_cons.2 h⟩;rcases List.mem_cons.1 hb with rfl|hb
    ·exact h3
    ·exact b3c h3 (h.1 b hb)
def mkD (k:Int)(f:a0l->Int)(p:a0l):Dt:=⟨p.1,p.2,k,f p⟩
theorem c5n (k:Int)(f f':a0l->Int)(p:a0l)(id:Int):∀(ks:List a0l),ks.Pairwise (λa b=>ltS a b=true)->(∀q,q≠p->f' q=f q)->(p∈ks->f' p=if id<f p then id else f p)->(p∉ks->f' p=id) ->
 a6b (ks.map (mkD k f)) ⟨p.1,p.2,k,id⟩=(d0b ks p).map (mkD k f')
 |[],_,_,_,h3=>by
  simp only[List.map_nil,a6b,d0b,List.map_cons];unfold mkD;rw[h3 vM]
 |a::ks,hs,h1,h2,h3=>by
  rw[List.pairwise_cons]at hs;show(if ltS a p=true then mkD k f a::a6b (ks.map (mkD k f)) ⟨p.1,p.2,k,id⟩else if a=p then(if id<f a then⟨a.1,a.2,k,id⟩else mkD k f a)::ks.map (mkD k f)else⟨p.1,p.2,k,id⟩::mkD k f a::ks.map (mkD k f))=(if ltS a p=true then a::d0b ks p else if a=p then a::ks else p::a::ks).map (mkD k f');by_cases ag:ltS a p=true
  ·rw[if_pos ag,if_pos ag,List.map_cons]
   have av:a≠p:=λe=>by subst e;rw[a4j]at ag;cases ag
   rw[c5n k f f' p id ks hs.2 h1 (λh=>h2 (List.mem_cons_of_mem _ h)) (λh=>h3 (λe=>by rcases List.mem_cons.1 e with e|e;exact av e.symm;exact h e))];congr 1;unfold mkD;rw[h1 a av]
  ·rw[if_neg ag,if_neg ag]
   by_cases he:a=p
   ·subst he
    rw[if_pos rfl,if_pos rfl,List.map_cons];have qA:ks.map (mkD k f)=ks.map (mkD k f'):=List.map_congr_left λq hq=>by
     have av:q≠a:=λe=>by have:=hs.1 q hq;rw[e,a4j]at this;cases this
     unfold mkD;rw[h1 q av]
    rw[qA];congr 1;have h4:=h2 List.mem_cons_self;unfold mkD;split
    ·rename_i hid;rw[if_pos hid]at h4;rw[h4]
    ·rename_i hid;rw[if_neg hid]at h4;rw[h4]
   ·have h5:=c2r (by simpa using ag) he
    rw[if_neg he,if_neg he,List.map_cons,List.map_cons];have LL:p∉a::ks:=λe=>by
     rcases List.mem_cons.1 e with e|e
     ·exact he e.symm
     ·have:=b3c h5 (hs.1 p e);rw[a4j]at this;cases this
    have av:∀q∈a::ks,q≠p:=λq hq e=>LL (e▸hq)
    have qA:ks.map (mkD k f)=ks.map (mkD k f'):=List.map_congr_left λq hq=>by
     unfold mkD;rw[h1 q (av q (List.mem_cons_of_mem _ hq))]
    rw[qA];unfold mkD;rw[h3 LL,h1 a (av a List.mem_cons_self)]
theorem b9q {en:List (a0l×Int)}(hn:(en.map (·.1)).Nodup):(a2y en).Pairwise (λa b=>ltS a b=true):=by
 have h1:(a2y en).Pairwise (λa b=>leS a b=true):=List.pairwise_mergeSort b8u b8v _;have h2:(a2y en).Nodup:=(List.mergeSort_perm _ _).nodup_iff.2 hn;rw[List.nodup_iff_pairwise_ne]at h2;refine(h1.and h2).imp ?_;rintro a b⟨ha,hb⟩;unfold leS at ha;exact c2r (by simpa using ha) (λe=>hb e.symm)
theorem b3e {en:List (a0l×Int)}{p:a0l}:p∈a2y en↔(a7q en p).isSome=true:=by
 rw[<-a8y,a2t];exact(List.mergeSort_perm _ _).mem_iff
theorem b5o (k:Int)(s:Sh)(en:List (a0l×Int))(c:a0l×Int)(hn:(en.map (·.1)).Nodup) :
 a1k k (a9q s en c)=if onS s c.1.1 c.1.2 then a6b (a1k k en) ⟨c.1.1,c.1.2,k,c.2⟩else a1k k en:=by
 obtain⟨p,id⟩:=c
 cases dp:onS s p.1 p.2 with
 |false =>
  rw[if_neg vM];unfold a9q c9q;simp[dp]
 |true =>
  rw[if_pos rfl];have hid:∀q,a7q (a9q s en (p,id)) q=if q=p then some (d4m id (a7q en p))else a7q en q:=λq=>by
   unfold a9q;rw[c9z];simp[dp]
  have O8:a2y (a9q s en (p,id))=d0b (a2y en) p:=by
   have hs:=b3d p (b9q hn);refine(b5e (b5d (a9x s en (p,id) hn) ?_ (λq=> ?_)) ?_).symm
   ·rw[List.nodup_iff_pairwise_ne]
    exact hs.imp λ{a b} h e=>by subst e;rw[a4j]at h;cases h
   ·rw[b6t,b3e,<-a2t,a8y,hid]
    split
    ·rename_i h;simp[h]
    ·rename_i h;simp[h]
   ·refine hs.imp λ{a b} h=> ?_
    unfold leS
    cases hb:ltS b a with
    |false=>rfl
    |true=>have:=b3c h hb;rw[a4j]at this;cases this
  unfold a1k;rw[O8];refine(c5n k (λq=>(a7q en q).getD 0) (λq=>(a7q (a9q s en (p,id)) q).getD 0) p id (a2y en) (b9q hn) (λq hq=> ?_) (λh=> ?_) (λh=> ?_)).symm
  ·simp only[hid,if_neg hq]
  ·simp only[hid,if_true,Option.getD_some]
   rw[b3e]at h
   cases ho:a7q en p with
   |none=>rw[ho]at h;cases h
   |some o=>rfl
  ·simp only[hid,if_true,Option.getD_some]
   rw[b3e]at h
   cases ho:a7q en p with
   |none=>rfl
   |some o=>rw[ho]at h;exact absurd rfl h
def d4n (k:Int)(s:Sh)(cs:List (a0l×Int))(l:List Dt):List Dt:=cs.foldl (λl c=>if onS s c.1.1 c.1.2 then a6b l ⟨c.1.1,c.1.2,k,c.2⟩else l) l
theorem a9z (k:Int)(s:Sh):∀(cs:List (a0l×Int)) (en:List (a0l×Int)),(en.map (·.1)).Nodup->d4n k s cs (a1k k en)=a1k k (cs.foldl (a9q s) en)
 |[],_,_=>rfl
 |c::cs,en,hn=>by
  unfold d4n;rw[List.foldl_cons,List.foldl_cons,<-b5o k s en c hn];exact a9z k s cs _ (a9x s en c hn)
end
section
open Go.RowKit Go.Shelf
@[local simp] theorem l0:b8l[0]? =some (.int .i64 1):=rfl
@[local simp] theorem l1:b8l[1]? =some (.int .i64 3):=rfl
@[local simp] theorem l2:b8l[2]? =some (.int .i64 9):=rfl
@[local simp] theorem l3:b8l[3]? =some (.int .i64 25):=rfl
@[local simp] theorem l4:b8l[4]? =some (.int .i64 17):=rfl
@[local simp] theorem l5:b8l[5]? =some (.int .i64 11):=rfl
@[local simp] theorem l6:b8l[6]? =some (.int .i64 27):=rfl
@[local simp] theorem l7:b8l[7]? =some (.int .i64 19):=rfl
@[local simp] theorem l8:b8l[8]? =some (.int .i64 10):=rfl
@[local simp] theorem l9:b8l[9]? =some (.int .i64 26):=rfl
attribute [local go_sem] l0 l1 l2 l3 l4 l5 l6 l7 l8 l9
end
end Go.Proofs.YtfocdbjceedagaaGreatDoor
namespace Go.Proofs.YtfocdbjceedagaaGreatDoor
open Go.RowKit Go.Shelf
structure Near5 (p:a0l):Prop where
 x0 : -100000<=p.1
 x1:p.1<=100000
 y0 : -100000<=p.2
 y1:p.2<=100000
structure LN (w:Wd)(B2 B3 base:Nat)(ax ay bx by_:Int)(lv:Vu)(l:List a0l)(W:Wd):Prop where
 k2:Blk W B2 #[.int .i64 ax,.int .i64 ay] 26
 k3:Blk W B3 #[.int .i64 bx,.int .i64 by_] 26
 l2:B2<base
 l3:B3<base
 lw:w.heap.size<=base
 row:W.ownsRow base 26 2 lv l.length (l.flatMap a6j)
 below:Below w.heap.size w W
 lb:base<=W.heap.size
section
variable {w W W':Wd}{B2 B3 base:Nat}{ax ay bx by_:Int}{lv:Vu}{l:List a0l}
theorem LN.grown (h:LN w B2 B3 base ax ay bx by_ lv l W)(hg:W.grownBy W' none):LN w B2 B3 base ax ay bx by_ lv l W' :=
 ⟨h.k2.kept hg vM,h.k3.kept hg vM,h.l2,h.l3,h.lw,by
  refine h.row.kept hg ?_;rcases h.row.2 with⟨rfl,_⟩|⟨g,cap,cur,rfl,_⟩
  ·exact .inl rfl
  ·exact .inr (λe=>by cases e),h.below.grown hg h.below.size (λk e=>by cases e),Nat.le_trans h.lb hg.size⟩
theorem LN.alloc (h:LN w B2 B3 base ax ay bx by_ lv l W)(o:Obj):LN w B2 B3 base ax ay bx by_ lv l (W.alloc o):=h.grown (World.grownBy_alloc W o none)
theorem LN.b0 (h:LN w B2 B3 base ax ay bx by_ lv l W):W.cell? ⟨B3,0,none⟩=some (.int .i64 bx):=h.k3.cell 0
theorem LN.b1 (h:LN w B2 B3 base ax ay bx by_ lv l W):W.cell? ⟨B3,1,none⟩=some (.int .i64 by_):=h.k3.cell 1
end
def FLine (B2 B3:Nat)(u6:Vu)(t N ax ay bx by_ qx qy:Int)(i:Nat)(v:Vu)(w:Wd):Prop :=
 match i with
 |0=>v=u6
 |1=>v= .pointer (some ⟨B2,0,none⟩)
 |2=>v= .int .i64 ax
 |3=>v= .int .i64 t
 |4=>v= .int .i64 (2*t)
 |5=>v= .pointer (some ⟨B3,0,none⟩)
 |6=>v= .int .i64 bx
 |7=>v= .pointer (some ⟨B2,0,none⟩)
 |8=>v= .int .i64 ax
 |9=>v= .int .i64 (bx-ax)
 |10=>v= .int .i64 ((2*t)*(bx-ax))
 |11=>v= .int .i64 N
 |12=>v= .int .i64 (((2*t)*(bx-ax))+N)
 |13=>v= .int .i64 N
 |14=>v= .int .i64 (2*N)
 |15=>v= .int .i64 qx
 |16=>v= .int .i64 (ax+qx)
 |17=>v= .pointer (some ⟨B2,1,none⟩)
 |18=>v= .int .i64 ay
 |19=>v= .int .i64 t
 |20=>v= .int .i64 (2*t)
 |21=>v= .pointer (some ⟨B3,1,none⟩)
 |22=>v= .int .i64 by_
 |23=>v= .pointer (some ⟨B2,1,none⟩)
 |24=>v= .int .i64 ay
 |25=>v= .int .i64 (by_-ay)
 |26=>v= .int .i64 ((2*t)*(by_-ay))
 |27=>v= .int .i64 N
 |28=>v= .int .i64 (((2*t)*(by_-ay))+N)
 |29=>v= .int .i64 N
 |30=>v= .int .i64 (2*N)
 |31=>v= .int .i64 qy
 |32=>v= .int .i64 (ay+qy)
 |33=>v= .agg #[.int .i64 (ax+qx),.int .i64 (ay+qy)]
 |34=>∃L,v= .slice (some ⟨L,0,none⟩) 1 1/\Blk w L #[.int .i64 (ax+qx),.int .i64 (ay+qy)] 26
 |_=>False
theorem FLine.kept {B2 B3:Nat}{u6:Vu}{t N ax ay bx by_ qx qy:Int}{i:Nat}{v:Vu}{w w':Wd}(h:FLine B2 B3 u6 t N ax ay bx by_ qx qy i v w)(hg:w.grownBy w' none):FLine B2 B3 u6 t N ax ay bx by_ qx qy i v w':=by
 unfold FLine at *;split at h
 all_goals first|exact h|(obtain⟨L,h1,h2⟩:=h;exact⟨L,h1,h2.kept hg vM⟩)
end Go.Proofs.YtfocdbjceedagaaGreatDoor
namespace Go.Proofs.YtfocdbjceedagaaGreatDoor
open Go.RowKit Go.Shelf
section
variable {w W W':Wd}{B2 B3 base:Nat}{ax ay bx by_:Int}{lv:Vu}{l:List a0l}
end
end Go.Proofs.YtfocdbjceedagaaGreatDoor
namespace Go.Proofs.YtfocdbjceedagaaGreatDoor
open Tryz
section
open Go.RowKit Go.Shelf Go.Deep
structure Lead (l:List Dt)(x:Dt)(k:Nat):Prop where
 le:k<=l.length
 lt:∀j,(h:j<k)->ltS ((l[j]'(Nat.lt_of_lt_of_le h le)).x,(l[j]'(Nat.lt_of_lt_of_le h le)).y) (x.x,x.y)=true
theorem Lead.zero (l:List Dt)(x:Dt):Lead l x 0:=⟨Nat.zero_le _,λj h=>absurd h oM⟩
end
section
open Go Go.RowKit Go.Shelf Go.Lib Go.Sort
/-! ### the order of places -/
theorem d0c (a b:Pc):ltOf a1o a b=true↔(b.wt<a.wt\/(a.wt=b.wt/\a.id<b.id)):=by
 unfold ltOf a1o compareInt;simp only[decide_eq_true_eq];split <;> (try split at *) <;> (try split at *) <;> (try split at *) <;> omega
theorem d0d (a b:Pc):ltOf a1o a b=false↔¬(b.wt<a.wt\/(a.wt=b.wt/\a.id<b.id)):=by
 rw[<-d0c]
 cases ltOf a1o a b <;> simp
theorem swoP :SWO (ltOf a1o):=by
 refine⟨λx=> ?_,λx y z h1 h2=> ?_,λx y z h1 h2=> ?_⟩
 ·rw[d0d];omega
 ·rw[d0c]at *;omega
 ·rw[d0d]at *;omega
theorem b3f {α:Type}(d:Array α)(n:Nat)(h:n=d.size):(d.extract 0 n)=d:=by
 subst h;simp
theorem a0v (l:List Pc):(a0q l).Perm l:=by
 have:=(insertionSort_holds (lt:=ltOf a1o) swoP l.toArray 0 l.length (Nat.zero_le _) vM).1;obtain⟨h1,-,h3⟩:=this;rw[b3f _ _ (by rw[h1];simp),b3f _ _ vM]at h3;exact h3
end
section
open Go.RowKit Go.Shelf
theorem b0a {k:Int}{en:List (a0l×Int)}{d:Dt}(h:d∈a1k k en):(d.x,d.y)∈en.map (·.1):=by
 unfold a1k at h;obtain⟨p,hp,rfl⟩:=List.mem_map.1 h;exact(List.mergeSort_perm _ _).mem_iff.1 hp
def Ent (s:Sh)(en:List (a0l×Int)):Prop:=∃cs:List (a0l×Int),en=cs.foldl (a9q s) []
theorem Ent.nil (s:Sh):Ent s []:=⟨[],rfl⟩
theorem Ent.put {s:Sh}{en:List (a0l×Int)}(h:Ent s en)(c:a0l×Int):Ent s (a9q s en c):=by
 obtain⟨cs,rfl⟩:=h;exact⟨cs++[c],by rw[List.foldl_append];rfl⟩
theorem Ent.nodup {s:Sh}{en:List (a0l×Int)}(h:Ent s en):(en.map (·.1)).Nodup:=by
 obtain⟨cs,rfl⟩:=h;exact a9y s cs [] vM
theorem Ent.len {s:Sh}{en:List (a0l×Int)}(h:Ent s en)(hs:OkS s):(a1k 2 en).length<=6480:=by
 rw[a3z];refine b9m hs h.nodup ?_;obtain⟨cs,rfl⟩:=h;exact b2z s cs [] vM
structure RO (w:Wd)(s:Sh)(B2 base:Nat)(v:Vu)(en:List (a0l×Int))(W:Wd):Prop where
 sheet:Blk W B2 #[.int .i64 s.ax,.int .i64 s.ay,.int .i64 s.st,.int .i64 s.w,.int .i64 s.h,.int .i64 s.g] 28
 far:B2<base
 row:W.ownsRow base 54 4 v (a1k 2 en).length ((a1k 2 en).flatMap a2k)
 wb:w.heap.size<=base
 below:Below w.heap.size w W
 lb:base<=W.heap.size
 ent:Ent s en
section
variable {w W W':Wd}{s:Sh}{B2 base Bw:Nat}{v v':Vu}{en iG:List (a0l×Int)}{c:Array Value}{lv:Vu}{l:List a0l}
theorem RO.grown (h:RO w s B2 base v en W)(hg:W.grownBy W' none):RO w s B2 base v en W' :=
 ⟨h.sheet.kept hg vM,h.far,a5n h.row hg vM,h.wb,h.below.grown hg h.below.size (λk e=>by cases e),Nat.le_trans h.lb hg.size,h.ent⟩
theorem RO.alloc (h:RO w s B2 base v en W)(o:Obj):RO w s B2 base v en (W.alloc o):=h.grown (World.grownBy_alloc W o none)
theorem RO.put (h:RO w s B2 base v en W)(hg:W.grownBy W' v.ownBlock)(ae:W'.ownsRow base 54 4 v' (a1k 2 iG).length ((a1k 2 iG).flatMap a2k))(he:Ent s iG):RO w s B2 base v' iG W' :=
 ⟨h.sheet.kept hg (λe=>by have:=(h.row.lt _ e).1;have:=h.far;omega),h.far,ae,h.wb,h.below.grown hg h.below.size (λk e=>by have:=(h.row.lt _ e).1;have:=h.wb;omega),Nat.le_trans h.lb hg.size,he⟩
structure RB (w:Wd)(s:Sh)(B2 base Bw:Nat)(c:Array Value)(v:Vu)(en:List (a0l×Int))(W:Wd):Prop where
 out:RO w s B2 base v en W
 box:Blk W Bw c 149
theorem RB.grown (h:RB w s B2 base Bw c v en W)(hg:W.grownBy W' none):RB w s B2 base Bw c v en W':=⟨h.out.grown hg,h.box.kept hg vM⟩
theorem RB.put (h:RB w s B2 base Bw c v en W)(hg:W.grownBy W' v.ownBlock)(ae:W'.ownsRow base 54 4 v' (a1k 2 iG).length ((a1k 2 iG).flatMap a2k))(he:Ent s iG):RB w s B2 base Bw c v' iG W' :=
 ⟨h.out.put hg ae he,h.box.kept hg (b9p h.out.row h.box jM)⟩
structure RL (w:Wd)(s:Sh)(B2 base Bw:Nat)(c:Array Value)(lv:Vu)(l:List a0l)(v:Vu)(en:List (a0l×Int))(W:Wd):Prop where
 way:RB w s B2 base Bw c v en W
 line:W.ownsRow base 26 2 lv l.length (l.flatMap a6j)
theorem RL.grown (h:RL w s B2 base Bw c lv l v en W)(hg:W.grownBy W' none):RL w s B2 base Bw c lv l v en W':=⟨h.way.grown hg,a5n h.line hg vM⟩
theorem RL.put (h:RL w s B2 base Bw c lv l v en W)(hg:W.grownBy W' v.ownBlock)(ae:W'.ownsRow base 54 4 v' (a1k 2 iG).length ((a1k 2 iG).flatMap a2k))(he:Ent s iG):RL w s B2 base Bw c lv l v' iG W' :=
 ⟨h.way.put hg ae he,a5n h.line hg (b3b h.line h.way.out.row jM)⟩
end
theorem b9r (s:Bw)(hd:d7y s):∀n,n<=s.size->∀c∈a8m s n,c.toNat=60\/c.toNat=26\/c.toNat=1\/c.toNat=3\/c.toNat=9\/c.toNat=25\/c.toNat=17\/c.toNat=11\/c.toNat=27\/c.toNat=19\/c.toNat=10
 |0,_,c,hc=>by cases hc
 |n+1,h,c,hc=>by
  unfold a8m at hc;rcases List.mem_append.1 hc with hc|hc
  ·split at hc
   ·rw[List.mem_singleton.1 hc]
    exact .inl rfl
   ·exact b9r s hd n oM c hc
  ·rw[List.mem_singleton.1 hc]
   obtain⟨h0,h1⟩:=hd n oM;have hg:s[n]! =s[n]'(by omega):=getElem!_pos s n oM;rw[hg];obtain⟨k,hk⟩:=zE ((s[n]'(by omega)).toNat);rw[hk]at h0 h1 ⊢;rcases(show k=48\/k=49\/k=50\/k=51\/k=52\/k=53\/k=54\/k=55\/k=56\/k=57 from oM)with rfl|rfl|rfl|rfl|rfl|rfl|rfl|rfl|rfl|rfl <;> decide
def a1f (n:Nat):ByteArray:=⟨(a8m (a7s n) (a7s n).size).toArray⟩
theorem a8d (n:Nat):(a1f n).size=(a8m (a7s n) (a7s n).size).length:=by
 show(a8m (a7s n) (a7s n).size).toArray.size=_;simp
theorem b3g (n k:Nat)(hk:k<(a1f n).size):((a1f n)[k]'hk).toNat=60\/((a1f n)[k]'hk).toNat=26\/((a1f n)[k]'hk).toNat=1\/((a1f n)[k]'hk).toNat=3\/((a1f n)[k]'hk).toNat=9\/((a1f n)[k]'hk).toNat=25\/((a1f n)[k]'hk).toNat=17\/((a1f n)[k]'hk).toNat=11\/((a1f n)[k]'hk).toNat=27\/((a1f n)[k]'hk).toNat=19\/((a1f n)[k]'hk).toNat=10:=by
 have hl:k<(a8m (a7s n) (a7s n).size).length:=by rw[<-a8d];exact hk
 exact b9r (a7s n) (b2s n) _ (yR _) _ (List.getElem_mem hl)
theorem a8z (n:Nat)(h:n<=999):(a1f n).size<=4:=by
 have h1:=b1t (a7s n) (a7s n).size;have h2:=a3j 2 n oM;rw[a8d];rw[a5h]at h1 ⊢;omega
def a3q (n k q:Nat):Bool:=c5m ((a1f n)[k]!).toNat q
theorem a4w (n k:Nat)(hk:k<(a1f n).size)(q:Nat):a3q n k q=c5m ((a1f n)[k]'hk).toNat q:=by
 unfold a3q;rw[getElem!_pos (a1f n) k hk]
structure PX (s:Sh)(pl:Array Value)(w:Wd)(B3 B4 base:Nat)(lv:Vu)(l:List a0l)(W:Wd):Prop where
 sheet:Blk W B3 (shC s) 28
 place:Blk W B4 pl 66
 l3:B3<base
 l4:B4<base
 lw:w.heap.size<=base
 row:W.ownsRow base 26 2 lv l.length (l.flatMap a6j)
 below:Below w.heap.size w W
 lb:base<=W.heap.size
section
variable {s:Sh}{pl:Array Value}{w W W':Wd}{B3 B4 base:Nat}{lv:Vu}{l:List a0l}
theorem PX.grown (h:PX s pl w B3 B4 base lv l W)(hg:W.grownBy W' none):PX s pl w B3 B4 base lv l W' :=
 ⟨h.sheet.kept hg vM,h.place.kept hg vM,h.l3,h.l4,h.lw,a5n h.row hg vM,h.below.grown hg h.below.size (λk e=>by cases e),Nat.le_trans h.lb hg.size⟩
theorem PX.alloc (h:PX s pl w B3 B4 base lv l W)(o:Obj):PX s pl w B3 B4 base lv l (W.alloc o):=h.grown (World.grownBy_alloc W o none)
theorem PX.up (h:PX s pl w B3 B4 base lv l W)(hb:Below W.heap.size W W'):PX s pl w B3 B4 base lv l W':=h.grown (a0t hb)
end
structure PY (s:Sh)(pl:Array Value)(w:Wd)(B3 B4 base:Nat)(Bd:Nat)(d:Nat->Bool)(lv:Vu)(l:List a0l)(W:Wd):Prop where
 px:PX s pl w B3 B4 base lv l W
 box:Blk W Bd #[.bool (d 0),.bool (d 1),.bool (d 2),.bool (d 3),.bool (d 4),.bool (d 5)] 126
theorem PY.cell {s:Sh}{pl:Array Value}{w W:Wd}{B3 B4 base Bd:Nat}{d:Nat->Bool}{lv:Vu}{l:List a0l}(h:PY s pl w B3 B4 base Bd d lv l W)(n:Nat)(hn:n<6):W.cell? ⟨Bd,n,none⟩=some (.bool (d n)):=by
 rw[h.box.cell];match n,hn with
 |0,_=>rfl
 |1,_=>rfl
 |2,_=>rfl
 |3,_=>rfl
 |4,_=>rfl
 |5,_=>rfl
structure PZ (s:Sh)(pl:Array Value)(w:Wd)(B3 B4 base:Nat)(lv:Vu)(l:List a0l)(v:Vu)(ds:List Dt)(W:Wd):Prop where
 px:PX s pl w B3 B4 base lv l W
 out:W.ownsRow base 54 4 v ds.length (ds.flatMap a2k)
section
variable {s:Sh}{pl:Array Value}{w W W':Wd}{B3 B4 base:Nat}{lv:Vu}{l:List a0l}{v v':Vu}{ds CM:List Dt}
theorem PZ.grown (h:PZ s pl w B3 B4 base lv l v ds W)(hg:W.grownBy W' none):PZ s pl w B3 B4 base lv l v ds W':=⟨h.px.grown hg,a5n h.out hg vM⟩
theorem PZ.put (h:PZ s pl w B3 B4 base lv l v ds W)(hg:W.grownBy W' v.ownBlock)(aj:W'.ownsRow base 54 4 v' CM.length (CM.flatMap a2k)):PZ s pl w B3 B4 base lv l v' CM W':=by
 have av:∀B,B<base->v.ownBlock≠some B:=λB hB e=>by have:=(h.out.lt _ e).1;omega
 exact⟨⟨h.px.sheet.kept hg (av _ h.px.l3),h.px.place.kept hg (av _ h.px.l4),h.px.l3,h.px.l4,h.px.lw,a5n h.px.row hg (b3b h.px.row h.out jM),h.px.below.grown hg h.px.below.size (λr e=>by have:=(h.out.lt _ e).1;have:=h.px.lw;omega),Nat.le_trans h.px.lb hg.size⟩,aj⟩
end
def a4g (i j:Int)(r:Nat->Bool):Nat->List a0l
 |0=>[]
 |k+1=>a4g i j r k++(if r k then [a9v i j k]else [])
def a4x (i j:Int)(k:Nat)(d:Nat->Bool)(l:List a0l):Nat->List a0l
 |0=>l
 |n+1=>a4x i j k d l n++(if d n then [b1r i j k n]else [])
def a2r (i j:Int)(D:Nat->Nat->Bool)(l:List a0l):Nat->List a0l
 |0=>l
 |k+1=>a4x i j k (D k) (a2r i j D l k) 6
def a1y (i j:Int)(r:Nat->Bool)(D:Nat->Nat->Bool)(n:Nat):List a0l:=a2r i j D (a4g i j r 9) n
def d3l (id:Int)(en:List (a0l×Int))(p:a0l):List (a0l×Int):=b6k en p id
theorem c5o (i j id:Int)(r:Nat->Bool):∀k,c9s i j id r k=(a4g i j r k).foldl (d3l id) []
 |0=>rfl
 |k+1=>by
  rw[c9s,a4g,List.foldl_append,<-c5o i j id r k];unfold upE;split <;> rfl
theorem c5p (i j id:Int)(k:Nat)(d:Nat->Bool)(l:List a0l):∀n,d3k i j id k d (l.foldl (d3l id) []) n=(a4x i j k d l n).foldl (d3l id) []
 |0=>rfl
 |n+1=>by
  rw[d3k,a4x,List.foldl_append,<-c5p i j id k d l n];unfold upE;split <;> rfl
theorem b9s (i j id:Int)(D:Nat->Nat->Bool)(l:List a0l):∀n,b2p i j id D (l.foldl (d3l id) []) n=(a2r i j D l n).foldl (d3l id) []
 |0=>rfl
 |n+1=>by rw[b2p,a2r,b9s i j id D l n,c5p]
theorem b0b (i j id:Int)(r:Nat->Bool)(D:Nat->Nat->Bool)(n:Nat):a6p i j id r D n=(a1y i j r D n).foldl (d3l id) []:=by
 unfold a6p a1y;rw[c5o,b9s]
theorem a5o (i j:Int)(r:Nat->Bool):∀k,(a4g i j r k).length<=k
 |0=>yR _
 |k+1=>by
  have:=a5o i j r k;rw[a4g,List.length_append];exact ykx
theorem b0c (i j:Int)(k:Nat)(d:Nat->Bool)(l:List a0l):∀n,(a4x i j k d l n).length<=l.length+n
 |0=>yR _
 |n+1=>by
  have:=b0c i j k d l n;rw[a4x,List.length_append];exact ykx
theorem a4o (i j:Int)(D:Nat->Nat->Bool)(l:List a0l):∀n,(a2r i j D l n).length<=l.length+6*n
 |0=>yR _
 |n+1=>by
  have h1:=a4o i j D l n;have h2:=b0c i j n (D n) (a2r i j D l n) 6;rw[a2r];omega
def c6w (id:Int)(en:List (a0l×Int)):Prop:=∀e∈en,e.2=id
theorem c6x {id:Int}{en:List (a0l×Int)}(h:c6w id en)(p:a0l):c6w id (b6k en p id):=by
 intro e he;unfold b6k at he;split at he
 ·obtain⟨e',uW,rfl⟩:=List.mem_map.1 he
  split
  ·rfl
  ·exact h e' uW
 ·rcases List.mem_append.1 he with he|he
  ·exact h e he
  ·rw[List.mem_singleton.1 he]
theorem d0e {id:Int}{en:List (a0l×Int)}(h:c6w id en){p:a0l}(hk:b1k en p=true):b6k en p id=en:=by
 unfold b6k;rw[if_pos hk];conv=>rhs;rw[<-List.map_id en]
 refine List.map_congr_left λe he=> ?_
 split
 ·rename_i hp
  have h1:=h e he;obtain⟨a,b⟩:=e;simp only[beq_iff_eq]at hp h1;rw[<-hp,<-h1];rfl
 ·rfl
theorem d4o {id:Int}{en:List (a0l×Int)}(h:c6w id en){p:a0l}(hk:b1k en p=true):(a7q en p).getD 0=id:=by
 rw[a8y]at hk;obtain⟨x,hx⟩:=Option.isSome_iff_exists.1 hk;rw[hx];unfold a7q at hx;obtain⟨e,he,rfl⟩:=Option.map_eq_some_iff.1 hx;exact h e (List.mem_of_find?_eq_some he)
theorem d0f {s:Sh}{id:Int}{en:List (a0l×Int)}(h:c6w id en){p:a0l}(dp:onS s p.1 p.2=true):b6k en p id=a9q s en (p,id):=by
 unfold a9q c9q;simp only[dp,Bool.true_and]
 cases hk:b1k en p with
 |false=>simp
 |true =>
  rw[d4o h hk,d0e h hk];simp
theorem b9t {s:Sh}{id:Int}:∀(ps:List a0l) (en:List (a0l×Int)),c6w id en->(∀p∈ps,onS s p.1 p.2=true)->ps.foldl (d3l id) en=(ps.map λp=>(p,id)).foldl (a9q s) en
 |[],_,_,_=>rfl
 |p::ps,en,h,dp=>by
  rw[List.foldl_cons,List.map_cons,List.foldl_cons,<-d0f h (dp p List.mem_cons_self)];exact b9t ps _ (c6x h p) (λq hq=>dp q (List.mem_cons_of_mem _ hq))
theorem a9a {id:Int}(q:a0l):∀(ps:List a0l) (en:List (a0l×Int)),q∈(ps.foldl (d3l id) en).map (·.1)↔q∈ps\/q∈en.map (·.1)
 |[],en=>by simp
 |p::ps,en=>by
  rw[List.foldl_cons,a9a q ps];unfold d3l;rw[<-a2t,<-a2t,c5c];simp only[List.mem_cons,Bool.or_eq_true,decide_eq_true_eq];constructor
  ·rintro(h|h|h) <;> simp[h]
  ·rintro((h|h)|h) <;> simp[h]
def b4u (id:Int)(ps:List a0l):List Dt:=ps.foldl (λl p=>a6b l ⟨p.1,p.2,3,id⟩) []
theorem b9u {s:Sh}{id:Int}{ps:List a0l}(dp:∀p∈ps,onS s p.1 p.2=true):b4u id ps=a1k 3 (ps.foldl (d3l id) []):=by
 rw[b9t ps [] (by intro e he;cases he) dp,<-a9z 3 s _ [] vM];unfold b4u d4n;rw[List.foldl_map,show a1k 3 []=[]from by simp[a1k,a2y]];have:∀(ps:List a0l) (l:List Dt),(∀p∈ps,onS s p.1 p.2=true)->ps.foldl (λl p=>a6b l ⟨p.1,p.2,3,id⟩) l=ps.foldl (λl p=>if onS s p.1 p.2=true then a6b l ⟨p.1,p.2,3,id⟩else l) l:=by
  intro ps;induction ps with
  |nil=>intros;rfl
  |cons p ps ih =>
   intro l h;rw[List.foldl_cons,List.foldl_cons,if_pos (h p List.mem_cons_self)];exact ih _ (λq hq=>h q (List.mem_cons_of_mem _ hq))
 exact this ps [] dp
theorem b3h (x:Dt):∀l:List Dt,(a6b l x).length<=l.length+1
 |[]=>yR _
 |d::l=>by
  have:=b3h x l;rw[a6b];split
  ·simp;omega
  ·split <;> simp
theorem a4p (id:Int)(ps:List a0l):(b4u id ps).length<=ps.length:=by
 have h:∀(ps:List a0l) (l:List Dt),(ps.foldl (λl p=>a6b l ⟨p.1,p.2,3,id⟩) l).length<=l.length+ps.length:=by
  intro ps;induction ps with
  |nil=>intro l;exact yR _
  |cons p ps ih =>
   intro l;have h1:=ih (a6b l ⟨p.1,p.2,3,id⟩);have h2:=b3h ⟨p.1,p.2,3,id⟩ l;rw[List.foldl_cons,List.length_cons];omega
 have:=h ps [];simpa[b4u]using this
theorem b6u {s:Sh}{id:Int}{ps:List a0l}(dp:∀p∈ps,onS s p.1 p.2=true):∀d∈b4u id ps,onS s d.x d.y=true:=by
 intro d hd;rw[b9u dp]at hd;have h:=b0a hd;rw[a9a]at h;rcases h with h|h
 ·exact dp _ h
 ·simp at h
end
section
open Go.RowKit Go.Shelf Go.Maps
variable{i j x y:Int}{s:Sh}
theorem d8f {b:Bool}(h:ofS s x y=(i,j,b))(w:Wd)(f0:fits s.ax)(f1:fits s.ay):
 Zc prog 62 #[shV s,.agg #[.int .i64 x,.int .i64 y]] w (.tuple #[.int .i64 i,.int .i64 j,.bool b]):=by
 have h1:=d7u s x y w f0 f1;rw[h]at h1;exact h1
theorem b1v (h:ofS s x y=(i,j,true)):a1h s=0/\onS s i j=true:=by
 unfold ofS at h;split at h
 ·rename_i h1
  simp only[Prod.mk.injEq,and_true]at h;obtain⟨h2,h3⟩:=h;rw[<-h2,<-h3];exact⟨h1.1,h1.2.2⟩
 ·simp at h
abbrev plC (id x y wt di:Int)(cls name:Bw):Array Value:= #[.int .i64 id,.int .i64 x,.int .i64 y,.string cls,.string name,.int .i64 wt,.int .i64 di]
theorem d4p (s:Sh)(id x y wt di num i j:Int)(cls name:Bw)(w:Wd)(f0:fits s.ax)(f1:fits s.ay)(cN:ofS s x y=(i,j,false)):
 Zc prog 23 #[shV s,.agg (plC id x y wt di cls name),.int .i64 num] w (.tuple #[.slice none 0 0,.bool false]):=by
 obtain⟨ax,ay,st,sw,sh,sg⟩:=s;replace cN:=Lib.hid cN;go_enter func23,ntmps23;go_wp2_with (first
  |(go_at_call 62;refine(d8f cN.out _ f0 f1).mono ?_;rintro e w'⟨rfl,al⟩;obtain⟨p,rfl⟩:=a0c al;clear al))
 go_ret2;exact⟨rfl,zC⟩
theorem d0g (s:Sh)(id x y wt di num i j:Int)(cls name txt cells:Bw)(D:Nat->Nat->Bool)(m:Nat)(w:Wd)(f0:fits s.ax)(f1:fits s.ay)(cN:ofS s x y=(i,j,true))(hid:fits id)
 (fE:1<=num) (eP:num<=999) (fF:cls.size<=1048576) (hm:m<7) (dD:(b1q cls.data.toList).tmod 7=m) (qo:cells.size<=16)
 (qB:∀W,Below w.heap.size w W->Calls prog 65 #[.int .i64 num] W λe W'=>e= .returned (.string txt)/\Below W.heap.size W W')
 (mf:∀W,Calls prog 64 #[.string txt] W λe W'=>e= .returned (.tuple #[.string cells,.int .i64 0])/\Below W.heap.size W W')
 (bq:∀k (h:k<cells.size) W,Calls prog 66 #[.int .u8 (cells[k]).toNat] W λe W'=>e= .returned (.agg #[.bool (D k 0),.bool (D k 1),.bool (D k 2),.bool (D k 3),.bool (D k 4),.bool (D k 5)])/\Below W.heap.size W W') 
 (av:a6p i j id (a5e m) D cells.size≠[]) :
 Calls prog 23 #[shV s,.agg (plC id x y wt di cls name),.int .i64 num] w λe w'=>Below w.heap.size w w' /\
  (((∀p∈(a6p i j id (a5e m) D cells.size).map (·.1),onS s p.1 p.2=true)/\∃v base,e= .returned (.tuple #[v,.bool true])/\w.heap.size<=base/\w'.ownsRow base 54 4 v (a1k 3 (a6p i j id (a5e m) D cells.size)).length ((a1k 3 (a6p i j id (a5e m) D cells.size)).flatMap a2k)) \/
  ((∃p∈(a6p i j id (a5e m) D cells.size).map (·.1),onS s p.1 p.2=false)/\e= .returned (.tuple #[.slice none 0 0,.bool false]))):=by
 obtain⟨aB,dp⟩:=b1v cN;have hs:=a4l aB;obtain⟨ax,ay,st,sw,sh,sg⟩:=s;have tH:=hs;obtain⟨s0,s1,u0,u1,v0,v1,a0,a1,b0,b1⟩:=tH;simp only at s0 s1 u0 u1 v0 v1 a0 a1 b0 b1;have ee:(0<=i/\i<=80)/\(0<=j/\j<=80):=by
  exact ykt
 obtain⟨⟨i0,i1⟩,j0,j1⟩:=ee;have mE:inR 1 num 999=true:=by simp only[inR];simp;omega
 replace mE:=Lib.hid mE;replace cN:=Lib.hid cN;replace dD:=Lib.hid dD;clear dp aB;go_enter func23,ntmps23;go_wp2_with (first
  |(go_at_call 62;refine(d8f cN.out _ f0 f1).mono ?_;rintro e w'⟨rfl,al⟩;obtain⟨p,rfl⟩:=a0c al;clear al)
  |(go_at_call 59;refine(a3y mE.out _).mono ?_;rintro e w'⟨rfl,rfl⟩))
 rw[run_bytes_of_string _ 9 116 5 cls underlying9 underlying116 underlying5];generalize grownCap _ _ _ _=cap;have kS:=((Blk.new w (shC ⟨ax,ay,st,sw,sh,sg⟩) 28).alloc (.cells (plC id x y wt di cls name) 66)).grow p;have kP:=(Blk.new (w.alloc (.cells (shC ⟨ax,ay,st,sw,sh,sg⟩) 28)) (plC id x y wt di cls name) 66).grow p;rw[World.size_alloc]at kP;have hB:Below w.heap.size w (((w.alloc (.cells (shC ⟨ax,ay,st,sw,sh,sg⟩) 28)).alloc (.cells (plC id x y wt di cls name) 66)).growBy p):=zC;obtain⟨V,hV⟩:=zE (((w.alloc (.cells (shC ⟨ax,ay,st,sw,sh,sg⟩) 28)).alloc (.cells (plC id x y wt di cls name) 66)).growBy p);rw[hV]at kS kP hB ⊢;clear hV p;have O9:w.heap.size<V.heap.size:=kS.lt;have Fy:w.heap.size+1<V.heap.size:=kP.lt;obtain⟨Bs,tK⟩:=zE w.heap.size;obtain⟨Bp,tL⟩:=zE (w.heap.size+1);have kB:∀k,(V.drew.alloc (.cells (bytesRow cls cap) 5 ((bytesRow cls cap).size,(bytesRow cls cap).size+1))).cell? ⟨V.heap.size,k,none⟩=(bytesRow cls cap)[k]? :=λk=>World.cell?_alloc_mark V.drew (bytesRow cls cap) 5 ((bytesRow cls cap).size,(bytesRow cls cap).size+1) k
 have CN:=kS.drew.alloc (.cells (bytesRow cls cap) 5 ((bytesRow cls cap).size,(bytesRow cls cap).size+1));have CO:=kP.drew.alloc (.cells (bytesRow cls cap) 5 ((bytesRow cls cap).size,(bytesRow cls cap).size+1));have dq:Below w.heap.size w (V.drew.alloc (.cells (bytesRow cls cap) 5 ((bytesRow cls cap).size,(bytesRow cls cap).size+1))):=(hB.drew).alloc (Nat.le_of_lt O9) _;obtain⟨W1,aH⟩:=zE (V.drew.alloc (.cells (bytesRow cls cap) 5 ((bytesRow cls cap).size,(bytesRow cls cap).size+1)));rw[aH]at kB CN CO dq;simp only[Result.andThen];rw[Oper.upon_value,aH,tL,tK];rw[tK]at CN;rw[tL]at CO;have LM:Bs<W1.heap.size:=CN.lt;have LO:Bp<W1.heap.size:=CO.lt;generalize V.heap.size=Bb at *;have tm:=Lib.hid tK;have TH:=Lib.hid tL;clear tK tL aH kS kP hB;go_wp2_with fail;go_loop [11,42] (λacc k=>∃n:Nat,n<=cls.size/\k= .int .i64 n/\acc= .int .i64 (b1q (cls.data.toList.take n))) (λ_ k=>cls.size-(intOf k).toNat)
 case atStart=>exact⟨0,Nat.zero_le _,rfl,rfl⟩
 case round =>
  obtain⟨n,hn,rfl,rfl⟩:=hrel;have hle:=c2j (cls.data.toList.take n);have im:(cls.data.toList.take n).length<=n:=List.length_take_le _ _;by_cases ag:n<cls.size
  ·have ao:W1.cell? ⟨Bb,n,none⟩=some (.int .u8 (cls[n]).toNat):=by rw[kB n];exact b9b cls cap n ag
   have dV:=b9a (cls.data.toList.take n) cls[n];rw[<-b5g cls n ag]at dV;have bf:=(cls[n]).toNat_lt;obtain⟨c,lI⟩:=zE ((cls[n]).toNat);rw[lI]at ao bf dV;obtain⟨acc,CP⟩:=zE (b1q (cls.data.toList.take n));rw[CP]at hle dV ⊢;replace dV:=Lib.hid dV;clear kB lI CP;go_wp2_with fail;go_round
   case rel=>exact⟨n+1,oM,by go_num,by rw[dV.out]⟩
   case measure=>simp[intOf];omega
  ·have hT:b1q (cls.data.toList.take n)=b1q cls.data.toList:=by rw[List.take_of_length_le uM]
   rw[hT]at hle ⊢;have oq:=dD.out;obtain⟨T,LP⟩:=zE (b1q cls.data.toList);rw[LP]at hle oq ⊢;clear kB hT LP dD;have vp:= @run_makeMap prog;go_wp2_with (first|(go_at_call 63;refine(c2i _).mono ?_;rintro e w'⟨rfl,al⟩;obtain⟨p,rfl⟩:=a0c al;clear al)|(refine a2h qM 119 _ _ qM _ _ (.agg (e2h m)) qM qM (d4d m hm _) ?_)|fail);clear vp;have kI:PI ⟨ax,ay,st,sw,sh,sg⟩ (plC id x y wt di cls name) w Bs Bp W1.heap.size 0 [] ((W1.alloc (.map #[] 0)).growBy p) :=
    ⟨⟨0,yR _,(MapIs.made W1).grow p⟩,(CN.alloc _).grow p,(CO.alloc _).grow p,below_growBy' (dq.alloc dq.size _) (b6i dq.size) p,dq.size,Nat.ne_of_lt LM,Nat.ne_of_lt LO⟩
   obtain⟨W2,bV⟩:=zE ((W1.alloc (.map #[] 0)).growBy p);rw[bV]at kI ⊢;obtain⟨mb,xE⟩:=zE W1.heap.size;rw[xE]at kI LM LO ⊢;clear bV xE dq CO CN p;obtain⟨r,hr⟩:=zE (a5e m);rw[hr]at av;unfold e2h;rw[hr];replace hr:=Lib.hid hr;go_loopw [56] (λk W=>∃n:Nat,n<=9/\k= .int .i64 n/\PI ⟨ax,ay,st,sw,sh,sg⟩ (plC id x y wt di cls name) w Bs Bp mb n (c9s i j id r n) W) (λk _=>9-(intOf k).toNat)
   case atStart=>exact⟨0,oM,rfl,kI⟩
   case round =>
    obtain⟨n,hn,rfl,hI⟩:=hrel;by_cases o8:n<9
    ·have kr:(0<=(n:Int).tmod 3/\(n:Int).tmod 3<=2)/\(0<=(n:Int).tdiv 3/\(n:Int).tdiv 3<=2):=by rw[Int.tmod_eq_emod_of_nonneg oM,Int.tdiv_eq_ediv_of_nonneg oM];omega
     have oC:c9s i j id r (n+1)=upE (r n) (c9s i j id r n) (a9v i j n) id:=rfl;unfold a9v at oC;have fi:=d4e r n o8;obtain⟨u,hu⟩:=zE (r n);obtain⟨ka,nc⟩:=zE ((n:Int).tmod 3);obtain⟨kb,lQ⟩:=zE ((n:Int).tdiv 3);obtain⟨en,jT⟩:=zE (c9s i j id r n);rw[hu,nc,lQ,jT]at oC;rw[nc,lQ]at kr;rw[hu]at fi;rw[jT]at hI;obtain⟨⟨A0,A1⟩,B0,B1⟩:=kr;have c0:wr.cell? ⟨Bp,0,none⟩=some (.int .i64 id):=hI.place.cell 0;obtain⟨⟨k,hk,hM⟩,nt,kK,ku,pD,Av,Aw⟩:=hI;have sr:=Lib.hid (show PI ⟨ax,ay,st,sw,sh,sg⟩ (plC id x y wt di cls name) w Bs Bp mb n en wr from⟨⟨k,hk,hM⟩,nt,kK,ku,pD,Av,Aw⟩);clear nt kK ku pD Av Aw jT hu;obtain⟨Dm,aj,il,cJ,aQ⟩:=hM;have vr:=Lib.hid aQ;have oD:a7v (i+ka-1,j+kb-1):=⟨by show _<=_/\_<=_;simp only;omega,by show _<=_/\_<=_;simp only;omega⟩;replace oC:=Lib.hid oC;replace fi:=Lib.hid fi;clear aQ
     cases u with
     |false =>
      go_wp2_with (first|(refine a2h qM 118 _ _ qM _ _ (.bool false) qM qM (fi.out _) ?_)|fail);go_roundw
      case rel=>exact⟨n+1,oM,by go_num,by rw[oC.out];exact sr.out.up oM⟩
      case measure=>simp[intOf];omega
     |true =>
      go_wp2_with (first|(refine a2h qM 118 _ _ qM _ _ (.bool true) qM qM (fi.out _) ?_)|(at_mapUpdate;refine wpList_mapUpdate_own _ qM _ _ _ 117 qM 122 3 spotLaw underlying117 _ mb k Dm qM aj oK _ _ (klS (i+ka-1,j+kb-1)) qM qM (a1w oD) _ [] (plainElem_int underlying3 (b2f hid)) ?_;intro w9 cM iA)|fail);go_roundw
      case rel=>exact⟨n+1,oM,by go_num,by rw[oC.out];exact sr.out.put hk aj.isMap il cJ vr.out oD cM iA⟩
      case measure=>simp[intOf];omega
    ·obtain rfl:n=9:=oM
     go_wp2_with (first
      |(go_at_call 65;refine(qB _ hI.below).mono ?_;rintro e w'⟨rfl,al⟩;obtain⟨p,rfl⟩:=a0c al;clear al)
      |(go_at_call 64;refine(mf _).mono ?_;rintro e w'⟨rfl,al⟩;obtain⟨p,rfl⟩:=a0c al;clear al))
     refine a0m (λW3 ez=> ?_);have ku:PI ⟨ax,ay,st,sw,sh,sg⟩ (plC id x y wt di cls name) w Bs Bp mb 9 (c9s i j id r 9) W3:=by rw[ez];exact hI.grow _
     clear ez hI kI;obtain⟨e9,cG⟩:=zE (c9s i j id r 9);have i7:a6p i j id r D cells.size=b2p i j id D e9 cells.size:=by unfold a6p;rw[cG]
     have h9:e9.length<=9:=by rw[<-cG];exact b2q i j id r 9
     rw[i7]at av;rw[cG]at ku;rw[<-hr.out]at i7;replace i7:=Lib.hid i7;clear cG;go_loopw [84] (λk W=>∃n:Nat,n<=cells.size/\k= .int .i64 n/\PI ⟨ax,ay,st,sw,sh,sg⟩ (plC id x y wt di cls name) w Bs Bp mb (9+6*n) (b2p i j id D e9 n) W) (λk _=>cells.size-(intOf k).toNat)
     case atStart=>exact⟨0,oM,rfl,ku⟩
     case round =>
      clear ku hn o8;rename_i n _;obtain⟨n,hn,rfl,hI⟩:=hrel;by_cases nW:n<cells.size
      ·have sr:=Lib.hid hI
       clear hI;go_wp2_with (first
        |(go_at_call 66;refine(bq n nW _).mono ?_;rintro e w'⟨rfl,al⟩;obtain⟨p,rfl⟩:=a0c al;clear al))
       refine a0m (λW4 cQ=> ?_);have pD:PI ⟨ax,ay,st,sw,sh,sg⟩ (plC id x y wt di cls name) w Bs Bp mb (9+6*n) (b2p i j id D e9 n) W4:=by rw[cQ];exact sr.out.grow _
       clear cQ sr;obtain⟨e0,tF⟩:=zE (b2p i j id D e9 n);obtain⟨d,hd⟩:=zE (D n);have qD:b2p i j id D e9 (n+1)=d3k i j id n d e0 6:=by rw[<-tF,<-hd];rfl
       rw[hd];rw[tF]at pD;replace qD:=Lib.hid qD;clear tF hd;go_loopw [91] (λq W=>∃t:Nat,t<=6/\q= .int .i64 t/\PI ⟨ax,ay,st,sw,sh,sg⟩ (plC id x y wt di cls name) w Bs Bp mb (9+6*n+t) (d3k i j id n d e0 t) W) (λq _=>6-(intOf q).toNat)
       case atStart=>exact⟨0,oM,rfl,pD⟩
       case round =>
        clear pD;obtain⟨t,ht,rfl,hI⟩:=hrel;by_cases Ac:t<6
        ·have kr:(0<=(t:Int).tmod 3/\(t:Int).tmod 3<=2)/\(0<=(t:Int).tdiv 3/\(t:Int).tdiv 3<=2):=by rw[Int.tmod_eq_emod_of_nonneg oM,Int.tdiv_eq_ediv_of_nonneg oM];omega
         have oC:d3k i j id n d e0 (t+1)=upE (d t) (d3k i j id n d e0 t) (b1r i j n t) id:=rfl;unfold b1r at oC;have fi:=d4f d t Ac;obtain⟨u,hu⟩:=zE (d t);obtain⟨ka,nc⟩:=zE ((t:Int).tmod 3);obtain⟨kb,lQ⟩:=zE ((t:Int).tdiv 3);obtain⟨en,jT⟩:=zE (d3k i j id n d e0 t);rw[hu,nc,lQ,jT]at oC;rw[nc,lQ]at kr;rw[hu]at fi;rw[jT]at hI;obtain⟨⟨A0,A1⟩,B0,B1⟩:=kr;have c0:wr.cell? ⟨Bp,0,none⟩=some (.int .i64 id):=hI.place.cell 0;obtain⟨⟨k,hk,hM⟩,nt,kK,ku,pD,Av,Aw⟩:=hI;have sr:=Lib.hid (show PI ⟨ax,ay,st,sw,sh,sg⟩ (plC id x y wt di cls name) w Bs Bp mb (9+6*n+t) en wr from⟨⟨k,hk,hM⟩,nt,kK,ku,pD,Av,Aw⟩);clear nt kK ku pD Av Aw jT hu;obtain⟨Dm,aj,il,cJ,aQ⟩:=hM;have vr:=Lib.hid aQ;have oD:a7v (i+3+3*n+kb,j+1-ka):=⟨by show _<=_/\_<=_;simp only;omega,by show _<=_/\_<=_;simp only;omega⟩;replace oC:=Lib.hid oC;replace fi:=Lib.hid fi;clear aQ bq qB mf
         cases u with
         |false =>
          go_wp2_with (first|(refine a2h qM 126 _ _ qM _ _ (.bool false) qM qM (fi.out _) ?_)|fail);go_roundw
          case rel=>exact⟨t+1,oM,by go_num,by rw[oC.out];exact sr.out.up oM⟩
          case measure=>simp[intOf];omega
         |true =>
          go_wp2_with (first|(refine a2h qM 126 _ _ qM _ _ (.bool true) qM qM (fi.out _) ?_)|(at_mapUpdate;refine wpList_mapUpdate_own _ qM _ _ _ 117 qM 122 3 spotLaw underlying117 _ mb k Dm qM aj oK _ _ (klS (i+3+3*n+kb,j+1-ka)) qM qM (a1w oD) _ [] (plainElem_int underlying3 (b2f hid)) ?_;intro w9 cM iA)|fail);go_roundw
          case rel=>exact⟨t+1,oM,by go_num,by rw[oC.out];exact sr.out.put hk aj.isMap il cJ vr.out oD cM iA⟩
          case measure=>simp[intOf];omega
        ·obtain rfl:t=6:=oM
         rw[<-qD.out]at hI;go_wp2_with fail;go_roundw
         case rel=>exact⟨n+1,oM,by go_num,hI.up oM⟩
         case measure=>simp[intOf];omega
      ·obtain rfl:n=cells.size:=oM
       have hle:=b0u i j id D e9 cells.size;obtain⟨en,jT⟩:=zE (b2p i j id D e9 cells.size);rw[jT]at hle hI av;have qE:=i7.out;rw[jT]at qE;replace qE:=Lib.hid qE;obtain⟨W5,iq⟩:=zE wr;rw[iq]at hI ⊢;have sr:=Lib.hid hI;obtain⟨⟨nn,iQ,Dm,aj,il,cJ,aQ⟩,nt,kK,ku,pD,Av,Aw⟩:=hI;have Pa:=nt.lt;have Pb:=kK.lt;have TI:mb<W5.heap.size:=MapIs.lt ⟨Dm,aj,il,cJ,aQ⟩;have iR:=ku.size;have vr:=Lib.hid aQ;clear aQ nt kK ku bq qB mf i7 jT;go_wp2_with (first|(at_range;refine wpList_range_own _ rfl _ 117 rfl 122 3 spotLaw underlying117 _ mb nn _ rfl aj ?_;intro w0 tp tq tr)|fail);go_frame
       have nu:=sr.out.grown tq;go_loopw [22] (λ_ wr=>∃(left:Lit->Bool) (xf:Nat) (ss:List a0l),wr.ranges prog 122 (plainElem prog 3) mb W5.heap.size nn Dm left xf/\CollS en left ss/\(∀p∈ss,onS ⟨ax,ay,st,sw,sh,sg⟩ p.1 p.2=true)/\PI ⟨ax,ay,st,sw,sh,sg⟩ (plC id x y wt di cls name) w Bs Bp mb (9+6*cells.size) en wr)
        (λ_ wr=>wr.rangeLeft mb W5.heap.size)
       case atStart=>exact⟨_,_,[],tp,CollS.start (λp hp=>(vr.out p hp).1),by simp,nu⟩
       case round =>
        clear nu tp tr;rename_i fZ _;obtain⟨left,xf,ss,uX,hC,jo,hI⟩:=hrel;have cZ:wr.rangeLeft mb W5.heap.size=xf:=uX.left_eq;go_wp2_with (first|(at_next;refine wpList_next_ranges _ rfl _ rfl 122 spotLaw (plainElem prog 3) a5b (λv:Value=>v) (λkey kl hk=>by obtain⟨x,_,hx,_⟩:=a3x hk;exact⟨x,hx⟩) (λv _ _=>⟨v,rfl⟩) mb W5.heap.size nn _ _ _ rfl uX ?_ ?_)|fail)
        ·intro fT pA
         have ah:=hC.all pA cJ;have tM:∀p∈en.map (·.1),onS ⟨ax,ay,st,sw,sh,sg⟩ p.1 p.2=true:=λp hp=>jo p ((ah.2 p).2 hp)
         have ku:=hI.below;obtain⟨kk,jI,LQ⟩:=hI.map;have xD:=b2k 3 mb kk en wr LQ oM av oM;have nx:=ku.size;clear uX hC pA ah LQ;go_wp2_with (first|(go_at_call 68;refine xD.mono ?_;rintro e w9⟨v,base,rfl,aD,ae,br⟩)|fail);go_ret2;rw[qE.out];exact⟨ku.trans (br.mono nx),.inl ⟨tM,v,base,rfl,Nat.le_trans nx aD,ae⟩⟩
        ·intro x0 x1 c kl yd yp w2 xg qe cX hv bj tt eL cf cH Pd
         obtain⟨x',fx,ex,rfl⟩:=a3x qe;obtain rfl:(x0,x1)=x':=by simp at ex;exact Prod.ext ex.1 ex.2
         have qf:b1k en (x0,x1)=true:=by rw[<-(vr.out (x0,x1) fx).1];exact has_true_of_atKey bj
         have kK:=hI.turn cf oM oM oM oM;have c0:w2.cell? ⟨Bs,0,none⟩=some (.int .i64 ax):=kK.sheet.cell 0;have c1:w2.cell? ⟨Bs,1,none⟩=some (.int .i64 ay):=kK.sheet.cell 1;have c2:w2.cell? ⟨Bs,2,none⟩=some (.int .i64 st):=kK.sheet.cell 2;have c3:w2.cell? ⟨Bs,3,none⟩=some (.int .i64 sw):=kK.sheet.cell 3;have c4:w2.cell? ⟨Bs,4,none⟩=some (.int .i64 sh):=kK.sheet.cell 4;have c5:w2.cell? ⟨Bs,5,none⟩=some (.int .i64 sg):=kK.sheet.cell 5;obtain⟨b,hb⟩:=zE (onS ⟨ax,ay,st,sw,sh,sg⟩ x0 x1);replace hb:=Lib.hid hb;have rZ:=Lib.hid (hC.step fx cX qf);have tN:=Lib.hid kK;have CQ:=Lib.hid tt;clear cH qe hC hI kK uX tt cJ cX hv bj
         cases b with
         |false =>
          go_wp2_with (first|(go_at_call 67;refine(b5c ⟨ax,ay,st,sw,sh,sg⟩ x0 x1 _ _ hb.out hs).mono ?_;rintro e w'⟨rfl,al⟩;obtain⟨p,rfl⟩:=a0c al;clear al)|fail);go_ret2;rw[qE.out];exact⟨below_growBy' (tN.out.below.alloc tN.out.below.size _) (b6i tN.out.below.size) _,.inr ⟨⟨(x0,x1),a2t.1 qf,hb.out⟩,rfl⟩⟩
         |true =>
          go_wp2_with (first|(go_at_call 67;refine(b5c ⟨ax,ay,st,sw,sh,sg⟩ x0 x1 _ _ hb.out hs).mono ?_;rintro e w'⟨rfl,al⟩;obtain⟨p,rfl⟩:=a0c al;clear al)|fail);have qg:=(CQ.out.alloc (.cells #[.int .i64 x0,.int .i64 x1] 122)).kept (a0p _ p) vM vM;go_roundw
          case rel=>exact⟨_,xg,ss++[(x0,x1)],qg,rZ.out,λp hp=>by rcases List.mem_append.1 hp with h|h;exact jo p h;(obtain rfl:p=(x0,x1):=by simpa using h);exact hb.out,(tN.out.grown (World.grownBy_alloc w2 _ none)).grow _⟩
          case measure=>rw[cZ,qg.left_eq];exact eL
end
section
open Go.RowKit Go.Shelf
def Pow (W : World) : Prop := Lib.TabIs prog W "internal/strconv.uint64pow10" .u64 Lib.pow10Tab
theorem Pow.below {W W':Wd}(h:Pow W)(hb:Below W.heap.size W W'):Pow W':=by
 unfold Pow Lib.TabIs World.var? at *;obtain⟨g,hg,h2⟩:=Option.bind_eq_some_iff.1 h;rw[hg];have ag:g<W.heap.size:=by
  cases ho:W.heap[g]? with
  |none=>rw[ho]at h2;cases h2
  |some o=>exact(Array.getElem?_eq_some_iff.1 ho).1
 show(match W'.heap[g]? with|some (.cells cs _ _)=>some cs|_=>none)=_;rw[hb.block g ag];exact h2
def plM (cls:Bw):Nat:=((b1q cls.data.toList).tmod 7).toNat
theorem d7f (cls:Bw):plM cls<7/\(b1q cls.data.toList).tmod 7=plM cls:=by
 have h:=(c2j cls.data.toList).1;have h1:=Int.tmod_nonneg 7 h;have h2:=Int.tmod_lt_of_pos (b1q cls.data.toList) (b:=7) oM;unfold plM;omega
def b9v (i j:Int)(cls:Bw)(num:Int):List a0l:=a1y i j (a5e (plM cls)) (a3q num.toNat) (a1f num.toNat).size
def plF (s:Sh)(x y id:Int)(cls:Bw)(num:Int):Bool×List Dt :=
 if(ofS s x y).2.2&&decide (1<=num)&&decide (num<=999)&&(b9v (ofS s x y).1 (ofS s x y).2.1 cls num).all (λp=>onS s p.1 p.2)then(true,b4u id (b9v (ofS s x y).1 (ofS s x y).2.1 cls num))else(false,[])
theorem d0h {s:Sh}{x y id:Int}{cls:Bw}{num i j:Int}{b:Bool}(h:ofS s x y=(i,j,b))(aK:b=false\/num<1\/999<num):plF s x y id cls num=(false,[]):=by
 unfold plF;rw[h];rw[if_neg];rcases aK with rfl|h|h
 ·simp
 ·rw[decide_eq_false (show ¬1<=num by omega)];simp
 ·rw[decide_eq_false (show ¬num<=999 by omega)];simp
theorem d0i {s:Sh}{x y id:Int}{cls:Bw}{num i j:Int}(h:ofS s x y=(i,j,true))(h0:1<=num)(h1:num<=999):plF s x y id cls num=if(b9v i j cls num).all (λp=>onS s p.1 p.2)then(true,b4u id (b9v i j cls num))else(false,[]):=by
 unfold plF;rw[h];simp only[decide_eq_true h0,decide_eq_true h1,Bool.true_and]
theorem b0y (i j:Int)(r:Nat->Bool)(n:Nat)(hn:n<=999):(a1y i j r (a3q n) (a1f n).size).length<=33:=by
 have h1:=a4o i j (a3q n) (a4g i j r 9) (a1f n).size;have h2:=a5o i j r 9;have h3:=a8z n hn;unfold a1y;omega
theorem b5p (s:Bw):∀n,(a8m s (n+1))[0]? =some 60
 |0=>by simp[a8m]
 |n+1=>by
  have h:=b5p s n;rw[a8m,if_neg oM,List.getElem?_append_left (by obtain⟨h1,-⟩:=List.getElem?_eq_some_iff.1 h;exact h1)];exact h
theorem c2s (n:Nat):a3q n 0 2=true/\1<=(a1f n).size:=by
 have hl:0<(Lib.decDigits n).length:=by rw[Lib.decDigits];split <;> simp
 have hs:0<(a7s n).size:=by rw[a5h];exact hl
 obtain⟨k,hk⟩:∃k,(a7s n).size=k+1:=⟨(a7s n).size-1,oM⟩;have hf:=b5p (a7s n) k;rw[<-hk]at hf;obtain⟨h0,h1⟩:=List.getElem?_eq_some_iff.1 hf;have hz:0<(a1f n).size:=by rw[a8d];exact h0
 refine⟨?_,hz⟩;rw[a4w n 0 hz 2];have h2:(a1f n)[0]'hz=60:=h1;rw[h2];decide
theorem c2t (i j:Int)(k:Nat)(d:Nat->Bool)(l:List a0l)(h:d 2=true):a4x i j k d l 6≠[]:=by
 simp only[a4x,h,if_true];simp
theorem b0z (i j:Int)(D:Nat->Nat->Bool)(l:List a0l)(h:D 0 2=true):∀n,a2r i j D l (n+1)≠[]
 |0=>by rw[a2r];exact c2t _ _ _ _ _ h
 |n+1=>by
  have ih:=b0z i j D l h n;rw[a2r];simp only[a4x];simp[ih]
theorem c2u (i j id:Int)(r:Nat->Bool)(n:Nat):a6p i j id r (a3q n) (a1f n).size≠[]:=by
 obtain⟨h1,h2⟩:=c2s n;obtain⟨k,hk⟩:∃k,(a1f n).size=k+1:=⟨(a1f n).size-1,oM⟩;have h3:=b0z i j (a3q n) (a4g i j r 9) h1 k;rw[b0b];unfold a1y;rw[hk];obtain⟨q,hq⟩:=List.exists_mem_of_ne_nil _ h3;intro he;have h4:=(a9a (id:=id) q (a2r i j (a3q n) (a4g i j r 9) (k+1)) []).2 (.inl hq);rw[he]at h4;simp at h4
theorem c2v (s:Sh)(id x y wt di num i j:Int)(cls name:Bw)(w:Wd)(f0:fits s.ax)(f1:fits s.ay)(cN:ofS s x y=(i,j,true))(aK:num<1\/999<num) :
 Zc prog 23 #[shV s,.agg (plC id x y wt di cls name),.int .i64 num] w (.tuple #[.slice none 0 0,.bool false]):=by
 obtain⟨ax,ay,st,sw,sh,sg⟩:=s;replace cN:=Lib.hid cN;have mE:inR 1 num 999=false:=by unfold inR;rcases aK with h|h <;> simp <;> omega
 replace mE:=Lib.hid mE;clear aK;go_enter func23,ntmps23;go_wp2_with (first|(go_at_call 62;refine(d8f cN.out _ f0 f1).mono ?_;rintro e w'⟨rfl,al⟩;obtain⟨p,rfl⟩:=a0c al;clear al)|(go_at_call 59;refine(a3y mE.out _).mono ?_;rintro e w'⟨rfl,rfl⟩)|fail);go_ret2;exact⟨rfl,zC⟩
theorem d8g {s:Sh}{W:Wd}{base:Nat}{v:Vu}{id:Int}{ps:List a0l}(hs:OkS s)(hl:ps.length<=1000)(dp:∀p∈ps,onS s p.1 p.2=true)(h:W.ownsRow base 54 4 v (b4u id ps).length ((b4u id ps).flatMap a2k)):Dts W.heap.size W v (b4u id ps) :=
 b5f h (by have:=a4p id ps;omega) (λd hd=>by
  have h9:=a5y.1 (b6u dp d hd);have w1:=hs.w1;have v1:=hs.h1;try simp only at h9
  exact⟨⟨oM,oM⟩,oM,oM⟩)
structure CT where
 k:Nat
 e:TypeId
abbrev CT.int :CT:=⟨0,0⟩
abbrev CT.str :CT:=⟨1,0⟩
abbrev CT.bool :CT:=⟨2,0⟩
abbrev CT.sl (e:Td):CT:=⟨3,e⟩
abbrev CT.any :CT:=⟨4,0⟩
def a2x (t:Td):List CT :=
 if t=3 then [.int]
 else if t=26 then [.int,.int]
 else if t=245 then [.int,.int,.int]
 else if t=206 then [.int,.sl 26,.int,.int]
 else if t=249 then [.int,.sl 245,.int,.int]
 else if t=140 then [.int,.str,.str,.int,.int]
 else if t=149 then [.int,.sl 26,.int,.str,.str,.bool,.int,.int]
 else if t=66 then [.int,.int,.int,.str,.any,.int,.int]
 else []
abbrev a8e (t:Td):Nat:=(a2x t).length
abbrev BS :=Nat->Prop
def SL (S:BS)(W:Wd)(e:Td)(v:Vu)(n:Nat):Prop :=
 ∃a cap,v= .slice a n cap/\n<=cap/\((a=none/\cap=0)\/∃b o c,a=some ⟨b,o*a8e e,none⟩/\S b/\Blk W b c e/\(o+cap)*a8e e<=c.size)
structure CT.ok (S:BS)(W:Wd)(ct:CT)(v:Vu):Prop where
 lt:ct.k<5
 i:ct.k=0->∃x,v= .int .i64 x/\fits x
 s:ct.k=1->∃s:ByteArray,v= .string s/\s.size<=30
 b:ct.k=2->∃b,v= .bool b
 l:ct.k=3->∃n,n<=100/\SL S W ct.e v n
 a:ct.k=4->∃s:ByteArray,v= .string s
theorem CT.ok_int {S:BS}{W:Wd}{x:Int}(h:fits x):CT.int.ok S W (.int .i64 x):=⟨jM,λ_=>⟨x,rfl,h⟩,λe=>absurd e jM,λe=>absurd e jM,λe=>absurd e jM,λe=>absurd e jM⟩
theorem CT.ok_str {S:BS}{W:Wd}{s:Bw}(h:s.size<=30):CT.str.ok S W (.string s):=⟨jM,λe=>absurd e jM,λ_=>⟨s,rfl,h⟩,λe=>absurd e jM,λe=>absurd e jM,λe=>absurd e jM⟩
theorem CT.ok_bool {S:BS}{W:Wd}(b:Bool):CT.bool.ok S W (.bool b):=⟨jM,λe=>absurd e jM,λe=>absurd e jM,λ_=>⟨b,rfl⟩,λe=>absurd e jM,λe=>absurd e jM⟩
theorem CT.ok_sl {S:BS}{W:Wd}{e:Td}{v:Vu}{n:Nat}(h:SL S W e v n)(hn:n<=100):(CT.sl e).ok S W v:=⟨by show 3<5;decide,λe=>absurd e (by show ¬3=0;decide),λe=>absurd e (by show ¬3=1;decide),λe=>absurd e (by show ¬3=2;decide),λ_=>⟨n,hn,h⟩,λe=>absurd e (by show ¬3=4;decide)⟩
def TB (S:BS)(W:Wd)(e:Td)(c:Array Value):Prop:=∀(i:Nat) (u:Vu) (ct:CT),c[i]? =some u->(a2x e)[i % a8e e]? =some ct->ct.ok S W u
def TW (S:BS)(W:Wd):Prop:=∀b,S b->∃c e,Blk W b c e/\TB S W e c
def Shp (S:BS)(W W':Wd):Prop:=∀b c e,S b->Blk W b c e->∃c',Blk W' b c' e/\c'.size=c.size
theorem Shp.refl (S:BS)(W:Wd):Shp S W W:=λ_ c _ _ h=>⟨c,h,rfl⟩
theorem Shp.trans {S S1:BS}{W W1 W2:Wd}(h1:Shp S W W1)(h2:Shp S1 W1 W2)(hs:∀b,S b->S1 b):Shp S W W2:=λb c e hb hc=>by
 obtain⟨c1,k1,s1⟩:=h1 b c e hb hc;obtain⟨c2,k2,s2⟩:=h2 b c1 e (hs b hb) k1;exact⟨c2,k2,s2.trans s1⟩
theorem SL.mono {S S':BS}{W W':Wd}{e:Td}{v:Vu}{n:Nat}(h:SL S W e v n)(hs:∀b,S b->S' b)(bO:Shp S W W'):SL S' W' e v n:=by
 obtain⟨a,cap,rfl,hn,h|⟨b,o,c,rfl,hb,hc,hl⟩⟩:=h
 ·exact⟨a,cap,rfl,hn,.inl h⟩
 ·obtain⟨c',gj,hz⟩:=bO b c e hb hc
  exact⟨_,cap,rfl,hn,.inr ⟨b,o,c',rfl,hs b hb,gj,oM⟩⟩
theorem CT.ok.mono {S S':BS}{W W':Wd}{ct:CT}{v:Vu}(h:ct.ok S W v)(hs:∀b,S b->S' b)(bO:Shp S W W'):ct.ok S' W' v :=
 ⟨h.lt,h.i,h.s,h.b,λe=>by obtain⟨n,hn,h⟩:=h.l e;exact⟨n,hn,h.mono hs bO⟩,h.a⟩
theorem TB.mono {S S':BS}{W W':Wd}{e:Td}{c:Array Value}(h:TB S W e c)(hs:∀b,S b->S' b)(bO:Shp S W W'):TB S' W' e c:=λi u ct h1 h2=>(h i u ct h1 h2).mono hs bO
structure Ev (X:BS)(S:BS)(W:Wd)(S':BS)(W':Wd):Prop where
 sub:∀b,S b->S' b
 new:∀b,S' b->S b\/W.heap.size<=b
 os:W'.os=W.os
 tape:W'.tape=W.tape
 output:W'.output=W.output
 size:W.heap.size<=W'.heap.size
 rest:∀b,b<W.heap.size->¬S b->¬X b->W'.heap[b]? =W.heap[b]?
 shape:Shp S W W'
 ok:TW S' W'
theorem TW.lt {S:BS}{W:Wd}(h:TW S W){b:Nat}(hb:S b):b<W.heap.size:=by
 obtain⟨c,e,hc,-⟩:=h b hb;exact hc.lt
theorem Ev.refl {X S:BS}{W:Wd}(h:TW S W):Ev X S W S W:=⟨λ_ h=>h,λ_ h=> .inl h,rfl,rfl,rfl,yR _,λ_ _ _ _=>rfl,Shp.refl _ _,h⟩
theorem Ev.trans {X S S1 S2:BS}{W W1 W2:Wd}(h1:Ev X S W S1 W1)(h2:Ev X S1 W1 S2 W2):Ev X S W S2 W2 :=
 ⟨λb h=>h2.sub b (h1.sub b h),λb h=>by
  rcases h2.new b h with h|h
  ·exact h1.new b h
  ·exact .inr (Nat.le_trans h1.size h),h2.os.trans h1.os,h2.tape.trans h1.tape,h2.output.trans h1.output,Nat.le_trans h1.size h2.size,λb hb hn hx=>by
  have eP:¬S1 b:=λh=>by
   rcases h1.new b h with h|h
   ·exact hn h
   ·omega
  exact(h2.rest b (Nat.lt_of_lt_of_le hb h1.size) eP hx).trans (h1.rest b hb hn hx),h1.shape.trans h2.shape h1.sub,h2.ok⟩
theorem Ev.below {X S S':BS}{W W':Wd}(h:Ev X S W S' W'){n:Nat}(hS:∀b,S b->n<=b)(hX:∀b,X b->n<=b)(hn:n<=W.heap.size):Below n W W' :=
 ⟨h.os,h.tape,h.output,h.size,λb hb=>h.rest b oM (λhs=>by have:=hS b hs;omega) (λhs=>by have:=hX b hs;omega)⟩
theorem Ev.sl {X S S':BS}{W W':Wd}(h:Ev X S W S' W'){e:Td}{v:Vu}{n:Nat}(hs:SL S W e v n):SL S' W' e v n:=hs.mono h.sub h.shape
theorem Ev.ct {X S S':BS}{W W':Wd}(h:Ev X S W S' W'){ct:CT}{v:Vu}(hs:ct.ok S W v):ct.ok S' W' v:=hs.mono h.sub h.shape
theorem Ev.blk {X S S':BS}{W W':Wd}(h:Ev X S W S' W'){b:Nat}{c:Array Value}{t:Td}(hb:Blk W b c t)(hn:¬S b)(hx:¬X b):Blk W' b c t:=(h.rest b hb.lt hn hx).trans hb
theorem Ev.not {X S S':BS}{W W':Wd}(h:Ev X S W S' W'){b:Nat}(hb:b<W.heap.size)(hn:¬S b):¬S' b:=λhs=>by
 rcases h.new b hs with h|h
 ·exact hn h
 ·omega
theorem Ev.of_grown {X S:BS}{W W':Wd}{row:Option Nat}(hT:TW S W)(hg:W.grownBy W' row)(hr:∀r,row=some r->¬S r/\X r):Ev X S W S W':=by
 have aM:∀b,S b->W'.heap[b]? =W.heap[b]? :=λb hb=>hg.block b (hT.lt hb) (λe=>(hr b e.symm).1 hb)
 have bO:Shp S W W':=λb c e hb hc=>⟨c,(aM b hb).trans hc,rfl⟩
 refine⟨λ_ h=>h,λ_ h=> .inl h,hg.os,hg.tape,hg.output,hg.size,λb hb _ hx=>hg.block b hb (λe=>hx (hr b e.symm).2),bO,λb hb=> ?_⟩;obtain⟨c,e,hc,ht⟩:=hT b hb;exact⟨c,e,(aM b hb).trans hc,ht.mono (λ_ h=>h) bO⟩
theorem Ev.of_below {X S:BS}{W W':Wd}(hT:TW S W)(h:Below W.heap.size W W'):Ev X S W S W':=Ev.of_grown hT (a0t h) (λr e=>by cases e)
theorem Ev.drew {X S:BS}{W:Wd}(hT:TW S W):Ev X S W S W.drew:=Ev.of_grown hT (b2y W) (λr e=>by cases e)
theorem TW.of_same {S:BS}{W W':Wd}(hT:TW S W)(h:∀b,S b->W'.heap[b]? =W.heap[b]?):TW S W':=by
 have bO:Shp S W W':=λb c e hb hc=>⟨c,(h b hb).trans hc,rfl⟩
 intro b hb;obtain⟨c,e,hc,ht⟩:=hT b hb;exact⟨c,e,(h b hb).trans hc,ht.mono (λ_ h=>h) bO⟩
theorem TW.none (W:Wd):TW (λ_=>False) W:=λ_ h=>h.elim
theorem Ev.alloc {X S:BS}{W:Wd}(hT:TW S W){c:Array Value}{e:Td}(hc:TB S W e c):Ev X S W (λb=>S b\/b=W.heap.size) (W.alloc (.cells c e)):=by
 have bO:Shp S W (W.alloc (.cells c e)):=λb c' e' hb gj=>⟨c',gj.alloc _,rfl⟩
 refine⟨λ_ h=> .inl h,λb h=>by rcases h with h|rfl;exact .inl h;exact .inr (yR _),rfl,rfl,rfl,by simp,λb hb _ _=>(World.grownBy_alloc W _ none).block b hb vM,bO,λb hb=> ?_⟩;rcases hb with hb|rfl
 ·obtain⟨c',e',gj,ht⟩:=hT b hb
  exact⟨c',e',gj.alloc _,ht.mono (λ_ h=> .inl h) bO⟩
 ·exact⟨c,e,Blk.new W c e,hc.mono (λ_ h=> .inl h) bO⟩
theorem Ev.set {X S:BS}{W:Wd}(hT:TW S W){b:Nat}{c:Array Value}{e:Td}(hb:S b)(hc:Blk W b c e)(i:Nat)(v:Vu)(hv:∀ct,(a2x e)[i % a8e e]? =some ct->ct.ok S W v):Ev X S W S (W.setCell ⟨b,i,none⟩ v):=by
 have bO:Shp S W (W.setCell ⟨b,i,none⟩ v):=λb' c' e' gW gj=>by
  by_cases h:b'=b
  ·subst h
   obtain⟨rfl,rfl⟩:c'=c/\e'=e:=by
    unfold Blk at hc gj;rw[hc]at gj
    cases gj;exact⟨rfl,rfl⟩
   exact⟨_,gj.set i v,by simp⟩
  ·exact⟨c',gj.other h i v,rfl⟩
 refine⟨λ_ h=>h,λ_ h=> .inl h,rfl,rfl,rfl,by simp,λb' _ hn _=>Below.heap_setCell _ _ _ _ (λe=>hn (by simp at e;exact e▸hb)),bO,λb' gW=> ?_⟩;by_cases h:b'=b
 ·subst h
  obtain⟨c0,e0,fT,ht⟩:=hT b' gW;obtain⟨rfl,rfl⟩:c0=c/\e0=e:=by
   exact yhz
  refine⟨_,e0,fT.set i v,λj u ct h1 h2=> ?_⟩;rw[Array.getElem?_setIfInBounds]at h1;split at h1
  ·rename_i ee
   subst ee;split at h1
   ·cases h1
    exact(hv ct h2).mono (λ_ h=>h) bO
   ·cases h1
  ·exact(ht j u ct h1 h2).mono (λ_ h=>h) bO
 ·obtain⟨c0,e0,fT,ht⟩:=hT b' gW
  exact⟨c0,e0,fT.other h i v,ht.mono (λ_ h=>h) bO⟩
theorem Ev.setCells {X S:BS}{b:Nat}{e:Td}(hb:S b):∀(vs:List Value) (o:Nat) (W:Wd) (c:Array Value),TW S W->Blk W b c e->(∀j u ct,vs[j]? =some u->(a2x e)[(o+j) % a8e e]? =some ct->ct.ok S W u)->Ev X S W S (W.setCells b o vs)
 |[],o,W,c,hT,hc,hv=>Ev.refl hT
 |v::r,o,W,c,hT,hc,hv=>by
  have h1:=Ev.set (X:=X) hT hb hc o v (λct h=>hv 0 v ct rfl (by simpa using h));exact h1.trans (Ev.setCells hb r (o+1) _ _ h1.ok (hc.set o v) (λj u ct h2 h3=>h1.ct (hv (j+1) u ct (by simpa using h2) (by rw[show o+(j+1)=o+1+j from by omega];exact h3))))
structure ET (e:Td)(s:Nat):Prop where
 size:a8e e=s
 pos:0<s
 info:∃i z,prog.info? e=some i/\i.zero=some z/\i.size=s/\i.bytes<=1000/\z.cells.size=s/\∀S W (j:Nat) u ct,z.cells[j]? =some u->(a2x e)[j]? =some ct->CT.ok S W ct u
theorem CT.ok.one {S:BS}{W:Wd}{ct:CT}{u:Vu}(h:ct.ok S W u):u.oneCell'=true:=by
 have hk:=h.lt;rcases(show ct.k=0\/ct.k=1\/ct.k=2\/ct.k=3\/ct.k=4 from oM)with e|e|e|e|e
 ·obtain⟨x,rfl,-⟩:=h.i e;rfl
 ·obtain⟨x,rfl,-⟩:=h.s e;rfl
 ·obtain⟨x,rfl⟩:=h.b e;rfl
 ·obtain⟨n,-,a,cap,rfl,-⟩:=h.l e;rfl
 ·obtain⟨x,rfl⟩:=h.a e;rfl
theorem SL.cells {S:BS}{W:Wd}{e:Td}{v:Vu}{n s:Nat}(hT:TW S W)(he:ET e s)(h:SL S W e v n):∃(a:Option Addr) (cap:Nat) (news:List Value),v= .slice a n cap/\n<=cap/\news.length=n*s/\(∀j u,news[j]? =some u->∃ad,a=some ad/\W.cell? (ad.add j)=some u)/\(∀j u ct,news[j]? =some u->(a2x e)[j % s]? =some ct->ct.ok S W u)/\(∀u∈news,u.oneCell'=true)/\(a=none->n=0):=by
 have hs:=he.size;have hp:=he.pos;obtain⟨a,cap,rfl,hn,⟨rfl,rfl⟩|⟨b,o,c,rfl,hb,hc,hl⟩⟩:=h
 ·obtain rfl:n=0:=oM
  exact⟨none,0,[],rfl,yR _,by simp,by simp,by simp,by simp,λ_=>rfl⟩
 ·rw[hs]at hl ⊢
  obtain⟨c0,e0,fT,ht⟩:=hT b hb;obtain⟨rfl,rfl⟩:c0=c/\e0=e:=by
   exact yhz
  have hle:(o+n)*s<=c0.size:=Nat.le_trans (Nat.mul_le_mul_right s oM) hl;rw[Nat.add_mul]at hle;have eK:∀j u,((c0.toList.drop (o*s)).take (n*s))[j]? =some u->c0[o*s+j]? =some u:=λj u h=>by
   rw[List.getElem?_take]at h;split at h
   ·rw[List.getElem?_drop]at h
    simpa using h
   ·cases h
  have Ak:∀j u ct,((c0.toList.drop (o*s)).take (n*s))[j]? =some u->(a2x e0)[j % s]? =some ct->ct.ok S W u:=λj u ct h1 h2 =>
   ht (o*s+j) u ct (eK j u h1) (by rw[hs,Nat.mul_comm,Nat.mul_add_mod];exact h2)
  refine⟨_,cap,(c0.toList.drop (o*s)).take (n*s),rfl,hn,by simp;omega,λj u hj=>⟨_,rfl,?_⟩,Ak,λu hu=> ?_,λh=>by cases h⟩
  ·rw[Go.WideShapes.add_plain]
   exact(hc.cell _).trans (eK j u hj)
  ·obtain⟨j,hj,rfl⟩:=List.getElem_of_mem hu
   have hm:j % s<(a2x e0).length:=by rw[show(a2x e0).length=s from hs];exact Nat.mod_lt _ hp
   exact(Ak j _ _ (List.getElem?_eq_getElem hj) (List.getElem?_eq_getElem hm)).one
theorem d0j {X S:BS}{W:Wd}(hT:TW S W){t e ty:Td}{s:Nat}(ht:prog.underlying t=some (.slice e))(he:ET e s){sv xv:Vu}{n m:Nat}(hv:SL S W e sv n)(hx:SL S W e xv m)(hl:n+m<=1000000) :
 ∃v' S' W',(Builtin.append_ #[t,t] ty #[sv,xv]).run prog W= .ok v' W'/\SL S' W' e v' (n+m)/\Ev X S W S' W':=by
 obtain⟨i,z,hi,hz,bu,o9,kj,GQ⟩:=he.info;have hp:=he.pos;have jo:=he.size;obtain⟨xa,xc,news,rfl,LR,iO,nW,wL,eP,nX⟩:=hx.cells hT he;have jA:Src prog i.size t (.slice xa m xc) m news W:=by
  exact yea
 have zX:=hv;obtain⟨a,cap,olds,rfl,Gz,rS,Fa,Lh,NR,GA⟩:=hv.cells hT he;by_cases jm:n+m<=cap
 ·obtain⟨a2,ke,h2,-,h3⟩:=zX
  cases h2;rcases h3 with⟨rfl,rfl⟩|⟨b,o,c,rfl,hb,hc,fF⟩
  ·obtain rfl:n=0:=oM
   obtain rfl:m=0:=oM;refine⟨.slice none 0 0,S,W,?_,⟨none,0,rfl,yR _,.inl ⟨rfl,rfl⟩⟩,Ev.refl hT⟩;simp[Builtin.append_,run_underlying ht,sizeOf,typeInfo,hi,jA.len,jA.cells]
  ·rw[jo]at fF ⊢
   have hmul:(n+m)*s<=cap*s:=Nat.mul_le_mul_right s jm;rw[Nat.add_mul]at hmul fF;have ao:∀j,j<news.length->(W.cell? ⟨b,o*s+n*i.size+j,none⟩).isSome=true:=λj hj=>by
    rw[hc.cell,bu,Array.getElem?_eq_getElem oM];rfl
   have hr:=run_append_room_src (P:=prog) W t t ty e i ht hi b (o*s) n cap (.slice xa m xc) m news jA jm ao (λj hj=>hc.frozen _);refine⟨_,S,_,hr,?_,?_⟩
   ·exact yee
   ·exact ygp
 ·have hold:(Builtin.firstCells i.size n (.slice a n cap)).run prog W.drew= .ok olds.toArray W.drew:=by
   exact ydi
  have aY:=grownCap_ge W (n+m) cap e;have bY:Builtin.nextslicecap (n+m) cap*i.bytes<=281474976710656:=growslice_fits oM (Nat.le_trans (Nat.mul_le_mul hl o9) jM);have hr:=run_append_grow_src (P:=prog) W t t ty e i z ht hi hz a n cap olds hold (.slice xa m xc) m news jA oM oM bY;have GB:=(Ev.drew (X:=X) hT).ok;have uQ:=Ev.drew (X:=X) hT;have hB:TB S W.drew e ((olds++news).toArray++Builtin.zeroCells z.cells (grownCap W (n+m) cap e-(n+m))):=by
   exact yau
  have hA:=Ev.alloc (X:=X) GB hB;refine⟨_,_,_,hr,?_,uQ.trans hA⟩;exact yei
theorem b1a {X S:BS}{w:Wd}(hT:TW S w){o:Oper}{a:Act}{K:Act->World->Prop}{Q:Exit->Act->World->Prop}(sO xO:Operand)(t:Td)(ho:o.op= .call { callee:= .builtin .append,args:= #[sO,xO],argTypes:= #[t,t] })
 {e:Td} {s:Nat} (ht:prog.underlying t=some (.slice e)) (he:ET e s) {sv xv:Vu} {n m:Nat} (bH:a.eval sO=sv) (hv:SL S w e sv n) (dH:a.eval xO=xv) (hx:SL S w e xv m) (hl:n+m<=1000000)
 (h:∀v' S' w',SL S' w' e v' (n+m)->Ev X S w S' w'->K (a.put o.dst v') w'):Oper.wp prog o a w K Q:=by
 obtain⟨v',S',w',hr,h2,h3⟩:=d0j (X:=X) hT (ty:=o.type) ht he hv hx hl;unfold Oper.wp execOp;simp only[ho,resolve,invoke,builtin,Sem.run_bind,Sem.run_pure,Result.andThen_ok,List.map_toArray,List.map_cons,List.map_nil,bH,dH,hr];exact h v' S' w' h2 h3
theorem a1q {X S:BS}{w:Wd}(hT:TW S w){ops:Array Oper}{rest:List Oper}{o:Oper}{a:Act}{Q:Exit->Act->World->Prop}(dI:o.guard=none)(sO xO:Operand)(t:Td)(ho:o.op= .call { callee:= .builtin .append,args:= #[sO,xO],argTypes:= #[t,t] })
 {e:Td} {s:Nat} (ht:prog.underlying t=some (.slice e)) (he:ET e s) {sv xv:Vu} {n m:Nat} (bH:a.eval sO=sv) (hv:SL S w e sv n) (dH:a.eval xO=xv) (hx:SL S w e xv m) (hl:n+m<=1000000)
 (h:∀v' S' w',SL S' w' e v' (n+m)->Ev X S w S' w'->wpList prog ops Q rest (a.put o.dst v') w'):wpList prog ops Q (o::rest) a w :=
 wpList_plain dI λ_ hK=>b1a hT sO xO t ho ht he bH hv dH hx hl λv' S' w' h2 h3=>hK _ _ (h v' S' w' h2 h3)
def zOk (ct:CT)(u:Vu):Bool :=
 match u with
 |.int .i64 n=>ct.k==0&&n==0
 |.string s=>(ct.k==1||ct.k==4)&&s.size==0
 |.bool _=>ct.k==2
 |.slice none 0 0=>ct.k==3
 |_=>false
theorem e0h {ct:CT}{u:Vu}(h:zOk ct u=true)(S:BS)(W:Wd):ct.ok S W u:=by
 obtain⟨k,e⟩:=ct;unfold zOk at h;split at h
 ·simp only[Bool.and_eq_true,beq_iff_eq]at h
  obtain⟨rfl,rfl⟩:=h;exact⟨by simp,λ_=>⟨0,rfl,⟨jM,jM⟩⟩,λe=>by simp at e,λe=>by simp at e,λe=>by simp at e,λe=>by simp at e⟩
 ·rename_i s
  simp only[Bool.and_eq_true,Bool.or_eq_true,beq_iff_eq]at h;obtain⟨rfl|rfl,h⟩:=h
  ·exact⟨by simp,λe=>by simp at e,λ_=>⟨s,rfl,oM⟩,λe=>by simp at e,λe=>by simp at e,λe=>by simp at e⟩
  ·exact⟨by simp,λe=>by simp at e,λe=>by simp at e,λe=>by simp at e,λe=>by simp at e,λ_=>⟨s,rfl⟩⟩
 ·rename_i b
  simp only[beq_iff_eq]at h;subst h;exact⟨by simp,λe=>by simp at e,λe=>by simp at e,λ_=>⟨b,rfl⟩,λe=>by simp at e,λe=>by simp at e⟩
 ·simp only[beq_iff_eq]at h
  subst h;exact⟨by simp,λe=>by simp at e,λe=>by simp at e,λe=>by simp at e,λ_=>⟨0,oM,none,0,rfl,yR _,.inl ⟨rfl,rfl⟩⟩,λe=>by simp at e⟩
 ·cases h
def e3x (e:Td)(z:Vu):Bool:=(List.range (a8e e)).all λj=>match z.cells[j]?,(a2x e)[j]? with|some u,some ct=>zOk ct u|_,_=>false
theorem d8h {e:Td}{z:Vu}(h:e3x e z=true)(S:BS)(W:Wd)(j:Nat)(u:Vu)(ct:CT)(h1:z.cells[j]? =some u)(h2:(a2x e)[j]? =some ct):ct.ok S W u:=by
 have hj:j<a8e e:=(List.getElem?_eq_some_iff.1 h2).1;have h3:=List.all_eq_true.1 h j (List.mem_range.2 hj);rw[h1,h2]at h3;exact e0h h3 S W
theorem c2w {e:Td}{s bytes:Nat}{z:Vu}(h:(prog.info? e).map (λi=>(i.zero,i.size,i.bytes))=some (some z,s,bytes))(h1:a8e e=s)(h2:0<s)(h3:bytes<=1000)(h4:z.cells.size=s)(h5:e3x e z=true):ET e s:=by
 obtain⟨i,hi,hz,hs,hb⟩:=info_parts h;exact⟨h1,h2,i,z,hi,hz,hs,oM,h4,d8h h5⟩
abbrev edZ :Array Value:= #[.int .i64 0,.slice none 0 0,.int .i64 0,.int .i64 0]
abbrev faZ :Array Value:= #[.int .i64 0,.string ⟨#[]⟩,.string ⟨#[]⟩,.int .i64 0,.int .i64 0]
abbrev e4j :Array Value:= #[.int .i64 0,.slice none 0 0,.int .i64 0,.string ⟨#[]⟩,.string ⟨#[]⟩,.bool false,.int .i64 0,.int .i64 0]
theorem a7x :ET 3 1:=c2w (z:= .int .i64 0) (bytes:=8) zM rfl oM oM rfl zM
theorem a1z :ET 26 2:=c2w (z:= .agg #[.int .i64 0,.int .i64 0]) (bytes:=16) zM rfl oM oM rfl zM
theorem b6v :ET 245 3:=c2w (z:= .agg #[.int .i64 0,.int .i64 0,.int .i64 0]) (bytes:=24) zM rfl oM oM rfl zM
theorem a2g :ET 206 4:=c2w (z:= .agg edZ) (bytes:=48) zM rfl oM oM rfl zM
theorem a9b :ET 249 4:=c2w (z:= .agg edZ) (bytes:=48) zM rfl oM oM rfl zM
theorem a1v :ET 140 5:=c2w (z:= .agg faZ) (bytes:=56) zM rfl oM oM rfl zM
theorem a5p :ET 149 8:=c2w (z:= .agg e4j) (bytes:=96) zM rfl oM oM rfl zM
theorem SL.nil (S:BS)(W:Wd)(e:Td):SL S W e (.slice none 0 0) 0:=⟨none,0,rfl,yR _,.inl ⟨rfl,rfl⟩⟩
theorem SL.blk {S:BS}{W:Wd}{e:Td}{b n:Nat}{c:Array Value}(hb:S b)(hc:Blk W b c e)(hn:n*a8e e<=c.size):SL S W e (.slice (some ⟨b,0,none⟩) n n) n :=
 ⟨_,n,rfl,yR _,.inr ⟨b,0,c,by rw[Nat.zero_mul],hb,hc,by rw[Nat.zero_add];exact hn⟩⟩
theorem SL.some_ {S:BS}{W:Wd}{e:Td}{v:Vu}{n:Nat}(h:SL S W e v n)(hn:0<n):∃b off cap,v= .slice (some ⟨b,off,none⟩) n cap/\n<=cap/\S b:=by
 obtain⟨a,cap,rfl,h1,⟨rfl,rfl⟩|⟨b,o,c,rfl,hb,-,-⟩⟩:=h
 ·omega
 ·exact⟨b,_,cap,rfl,h1,hb⟩
theorem SL.form {S:BS}{W:Wd}{e:Td}{v:Vu}{n:Nat}(h:SL S W e v n):∃a cap,v= .slice a n cap/\n<=cap:=by
 obtain⟨a,cap,rfl,h1,-⟩:=h;exact⟨a,cap,rfl,h1⟩
theorem SL.cell {S:BS}{W:Wd}{e:Td}{b off n cap s:Nat}(hT:TW S W)(he:ET e s)(h:SL S W e (.slice (some ⟨b,off,none⟩) n cap) n){k:Nat}(hk:k<n)(i:Nat)(ct:CT)(su:(a2x e)[i]? =some ct) :
 ∃u,W.cell? ⟨b,off+k*s+i,none⟩=some u/\ct.ok S W u:=by
 obtain⟨a,aI,h0,h1,⟨rfl,rfl⟩|⟨b',o,c,rfl,hb,hc,hl⟩⟩:=h
 ·simp at h0
 ·simp only[Value.slice.injEq,Option.some.injEq,Addr.mk.injEq,and_true,true_and]at h0
  obtain⟨⟨rfl,rfl⟩,rfl⟩:=h0;have hs:=he.size;rw[hs]at hl ⊢;obtain⟨c0,e0,fT,ht⟩:=hT b hb;obtain⟨rfl,rfl⟩:c0=c/\e0=e:=by
   exact yhz
  have hi:i<s:=by rw[<-hs];exact(List.getElem?_eq_some_iff.1 su).1
  have hle:(o+k+1)*s<=(o+cap)*s:=Nat.mul_le_mul_right s oM;rw[Nat.add_mul,Nat.add_mul,Nat.one_mul]at hle;have ag:o*s+k*s+i<c0.size:=oM;refine⟨c0[o*s+k*s+i],?_,?_⟩
  ·rw[hc.cell,Array.getElem?_eq_getElem ag]
  ·refine ht (o*s+k*s+i) _ ct (Array.getElem?_eq_getElem ag) ?_
   rw[hs,<-Nat.add_mul,Nat.mul_comm,Nat.mul_add_mod,Nat.mod_eq_of_lt hi];exact su
theorem SL.store {X S:BS}{W:Wd}{e:Td}{b off n cap s:Nat}(hT:TW S W)(he:ET e s)(h:SL S W e (.slice (some ⟨b,off,none⟩) n cap) n)(k:Nat)(i:Nat)(ct:CT)(su:(a2x e)[i]? =some ct)(v:Vu)(hv:ct.ok S W v) :
 Ev X S W S (W.setCell ⟨b,off+k*s+i,none⟩ v)/\W.frozen? ⟨b,off+k*s+i,none⟩=false:=by
 obtain⟨a,aI,h0,h1,⟨rfl,rfl⟩|⟨b',o,c,rfl,hb,hc,hl⟩⟩:=h
 ·simp at h0
 ·simp only[Value.slice.injEq,Option.some.injEq,Addr.mk.injEq,and_true,true_and]at h0
  obtain⟨⟨rfl,rfl⟩,rfl⟩:=h0;have hs:=he.size;have hi:i<s:=by rw[<-hs];exact(List.getElem?_eq_some_iff.1 su).1
  refine⟨Ev.set hT hb hc _ v (λTJ h=> ?_),hc.frozen _⟩;rw[hs,<-Nat.add_mul,Nat.mul_comm,Nat.mul_add_mod,Nat.mod_eq_of_lt hi,su]at h
  cases h;exact hv
theorem SL.take {S:BS}{W:Wd}{e:Td}{a:Option Addr}{n cap k:Nat}(h:SL S W e (.slice a n cap) n)(hk:k<=n):SL S W e (.slice a k cap) k:=by
 obtain⟨a',aI,h0,h1,h2⟩:=h
 cases h0;exact⟨a,cap,rfl,oM,h2⟩
theorem SL.drop {S:BS}{W:Wd}{e:Td}{b off n cap k o2 s:Nat}(hs:a8e e=s)(h:SL S W e (.slice (some ⟨b,off,none⟩) n cap) n)(hk:k<=n)(ho:o2=off+k*s\/(k=cap/\o2=off)):SL S W e (.slice (some ⟨b,o2,none⟩) (n-k) (cap-k)) (n-k):=by
 obtain⟨a',aI,h0,h1,⟨rfl,rfl⟩|⟨b',o,c,rfl,hb,hc,hl⟩⟩:=h
 ·simp at h0
 ·simp only[Value.slice.injEq,Option.some.injEq,Addr.mk.injEq,and_true,true_and]at h0
  obtain⟨⟨rfl,rfl⟩,rfl⟩:=h0;rw[hs]at hl;rcases ho with rfl|⟨rfl,rfl⟩
  ·exact⟨_,_,rfl,oM,.inr ⟨b,o+k,c,by rw[hs,Nat.add_mul],hb,hc,by rw[hs,show o+k+(cap-k)=o+cap from by omega];exact hl⟩⟩
  ·exact⟨_,_,rfl,oM,.inr ⟨b,o,c,by rw[hs],hb,hc,by rw[hs,Nat.sub_self,Nat.add_zero];exact Nat.le_trans (Nat.mul_le_mul_right s oM) hl⟩⟩
theorem c2x {S:BS}{W:Wd}{e:Td}{s:Nat}(he:a8e e=s){c:Array Value}(hc:c.size=s)(h:∀(i:Nat)(u:Vu)(ct:CT),c[i]? =some u->(a2x e)[i]? =some ct->ct.ok S W u):TB S W e c:=λi u ct h1 h2=>by
 have hi:i<s:=by rw[<-hc];exact(Array.getElem?_eq_some_iff.1 h1).1
 rw[he,Nat.mod_eq_of_lt hi]at h2;exact h i u ct h1 h2
theorem a6c {S:BS}{W:Wd}{x y:Int}(hx:fits x)(hy:fits y):TB S W 26 #[.int .i64 x,.int .i64 y]:=c2x rfl rfl λi u ct h1 h2=>by
 match i,h1,h2 with
 |0,h1,h2=>cases h1;cases h2;exact CT.ok_int hx
 |1,h1,h2=>cases h1;cases h2;exact CT.ok_int hy
 |i+2,h1,_=>simp at h1
theorem e0i {S:BS}{W:Wd}{x:Int}(hx:fits x):TB S W 3 #[.int .i64 x]:=c2x rfl rfl λi u ct h1 h2=>by
 match i,h1,h2 with
 |0,h1,h2=>cases h1;cases h2;exact CT.ok_int hx
 |i+1,h1,_=>simp at h1
theorem c5q {S:BS}{W:Wd}{e:Td}:TB S W e #[]:=λi u ct h1 _=>by simp at h1
theorem b3i {S:BS}{W:Wd}{id l r:Int}{v:Vu}{n:Nat}(hi:fits id)(hl:fits l)(hr:fits r)(hv:SL S W 26 v n)(hn:n<=100):TB S W 206 #[.int .i64 id,v,.int .i64 l,.int .i64 r]:=c2x rfl rfl λi u ct h1 h2=>by
 exact yfe
theorem d4q {S:BS}{W:Wd}{id l r:Int}{v:Vu}{n:Nat}(hi:fits id)(hl:fits l)(hr:fits r)(hv:SL S W 245 v n)(hn:n<=100):TB S W 249 #[.int .i64 id,v,.int .i64 l,.int .i64 r]:=c2x rfl rfl λi u ct h1 h2=>by
 exact yfe
def b6w (n:Nat):Prop:=n<=9223372036854775807
structure TD (S:BS)(n₀ D:Nat)(sv:Vu)(xs:List Int)(W:Wd):Prop where
 tw:TW S W
 box:∃j:Nat,j<=xs.length/\Blk W D #[sv,.int .i64 (j:Nat)] 137
 ints:Ints n₀ W sv xs
 le:n₀<=D
 len:b6w xs.length
 low:∀b,S b->n₀<=b
 not:¬S D
abbrev b1b (D:Nat):BS:=λb=>b=D
theorem TD.lt {S:BS}{n₀ D:Nat}{sv:Vu}{xs:List Int}{W:Wd}(h:TD S n₀ D sv xs W):D<W.heap.size:=by obtain⟨j,-,hb⟩:=h.box;exact hb.lt
theorem TD.ev {X S S':BS}{n₀ D:Nat}{sv:Vu}{xs:List Int}{W W':Wd}(h:TD S n₀ D sv xs W)(he:Ev X S W S' W')(hX:∀b,X b->n₀<=b/\b≠D):TD S' n₀ D sv xs W':=by
 have ag:=h.lt;obtain⟨j,hj,hb⟩:=h.box;have eM:∀b,S' b->n₀<=b:=λb hb=>by
  rcases he.new b hb with h1|h1
  ·exact h.low b h1
  ·have:=h.le;omega
 have bU:Below n₀ W W':=he.below h.low (λb hb=>(hX b hb).1) (by have:=h.le;omega);exact⟨he.ok,⟨j,hj,he.blk hb h.not (λhx=>(hX D hx).2 rfl)⟩,h.ints.below bU,h.le,h.len,eM,he.not ag h.not⟩
theorem d0k (n₀ D j:Nat)(xs:List Int)(sv:Vu)(m v:Int)(w:Wd)(hv:c2m xs j m=v)(cV:1<=m)(fO:m<=4611686018427387904)(hD:n₀<=D)(hI:Ints n₀ w sv xs)(hj:j<=xs.length)(hlen:b6w xs.length)(hB:Blk w D #[sv,.int .i64 (j:Nat)] 137) :
 Calls prog 73 #[.pointer (some ⟨D,0,none⟩),.int .i64 m] w λe w'=>∃p,e= .returned (.int .i64 v)/\w'=(w.setCell ⟨D,1,none⟩ (.int .i64 (min (j+1) xs.length:Nat))).growBy p:=by
 subst hv;by_cases ag:j<xs.length
 ·rw[show min (j+1) xs.length=j+1 from by omega]
  have c0:w.cell? ⟨D,0,none⟩=some sv:=hB.cell 0;have c1:w.cell? ⟨D,1,none⟩=some (.int .i64 (j:Nat)):=hB.cell 1;have f1:=hB.frozen 1;obtain⟨a,cap,rfl,hc⟩:=hI;obtain⟨b,off,rfl,hb,fx,cx⟩:=hc j ag;have hx:c2m xs j m=xs[j] % m:=by unfold c2m;rw[List.getD_eq_getElem?_getD,List.getElem?_eq_getElem ag];rfl
  rw[hx];obtain⟨x,LS⟩:=zE (xs[j]);rw[LS]at fx cx ⊢;have TK:¬b=D:=oM;have TL:¬D=b:=oM;have Pe:(j:Int)<(xs.length:Int):=oM;have TM:IntKind.i64.wrap ((j:Int)+1)=(j:Int)+1:=by unfold b6w at hlen;exact a0j oM oM
  have TN:wrap64 ((j:Int)+1)=(j:Int)+1:=by unfold b6w at hlen;exact Go.IntWalk.wrap64_in _ ⟨oM,oM⟩
  clear hc LS hx hj;go_enter func73,ntmps73;go_wp2_with fail;refine zR0 λp=> ?_
  go_wp2_with fail;have TO:wrap64 (j:Int)=(j:Int):=by unfold b6w at hlen;exact Go.IntWalk.wrap64_in _ ⟨oM,oM⟩
  clear hlen;refine zR1 λp=> ?_
  go_wp2_with fail;go_ret;exact⟨_,rfl,rfl⟩
 ·obtain rfl:j=xs.length:=oM
  rw[show min (xs.length+1) xs.length=xs.length from by omega];have c0:w.cell? ⟨D,0,none⟩=some sv:=hB.cell 0;have c1:w.cell? ⟨D,1,none⟩=some (.int .i64 (xs.length:Nat)):=hB.cell 1;have f1:=hB.frozen 1;have hid:=World.setCell_id w D 1 _ c1;have hz:c2m xs xs.length m=0:=by unfold c2m;rw[List.getD_eq_getElem?_getD,List.getElem?_eq_none oM];simp
  rw[hz];have Pf:¬(xs.length:Int)<(xs.length:Int):=oM;obtain⟨a,cap,rfl,-⟩:=hI;clear hz hlen hj;go_enter func73,ntmps73;go_wp2_with fail;refine zR0 λp=> ?_
  go_wp2_with fail;go_ret;exact⟨_,rfl,by rw[hid]⟩
theorem TD.call {S:BS}{n₀ D:Nat}{sv:Vu}{xs:List Int}{W:Wd}(h:TD S n₀ D sv xs W)(m:Int)(cV:1<=m)(fO:m<=4611686018427387904) :
 Calls prog 73 #[.pointer (some ⟨D,0,none⟩),.int .i64 m] W λe W'=>∃v,e= .returned (.int .i64 v)/\0<=v/\v<m/\TD S n₀ D sv xs W'/\W.grownBy W' (some D)/\Ev (b1b D) S W S W':=by
 obtain⟨j,hj,hb⟩:=h.box;refine(d0k n₀ D j xs sv m _ W rfl cV fO h.le h.ints hj h.len hb).mono ?_;rintro e W'⟨p,rfl,rfl⟩;have hg:=b6p W D 1 (.int .i64 (min (j+1) xs.length:Nat)) p;have hn:=d4i xs j cV;have hE:Ev (b1b D) S W S _:=Ev.of_grown h.tw hg (λr e=>by cases e;exact⟨h.not,rfl⟩);refine⟨_,rfl,hn.1,hn.2,⟨hE.ok,⟨min (j+1) xs.length,oM,?_⟩,h.ints.below (Below.of_grown hg (by have:=h.le;have:=hb.lt;omega) (λr e=>by cases e;exact h.le)),h.le,h.len,h.low,h.not⟩,hg,hE⟩;have:=(hb.set 1 (.int .i64 (min (j+1) xs.length:Nat))).grow p;simpa using this
section
variable {P:Program}
theorem b9w {W:Wd}{B:Nat}{c:Array Value}{t:Td}(h:Blk W B c t)(cs:Array Value):Blk (W.setRow B cs) B cs t/\W.grownBy (W.setRow B cs) (some B) :=
 ⟨setRow_heap W B c cs t (0,0) h,rfl,rfl,rfl,by simp[World.setRow],λk _ hk=>setRow_other W B k _ (λe=>hk (by rw[e]))⟩
theorem a3a {ops:Array Oper}{rest:List Oper}{o:Oper}{a:Act}{w:Wd}{Q:Exit->Act->World->Prop}(dI:o.guard=none)(ty:Td)(x y:Operand)(ho:o.op= .store ty x y)
 (B:Nat) (cs:Array Value) (hx:a.eval x= .pointer (some ⟨B,0,none⟩)) (hy:a.eval y= .agg cs) (t:Td) (old:Array Value) (hB:Blk w B old t) (hi:(P.info? ty).map (·.size)=some cs.size)
 (hold:old.size=cs.size) (h1:cs.all (·.oneCell')=true) (h:∀w',Blk w' B cs t->w.grownBy w' (some B)->wpList P ops Q rest (a.put o.dst undef) w'):wpList P ops Q (o::rest) a w :=
 wpList_plain dI λ_ hK=>by
  obtain⟨k1,k2⟩:=b9w hB cs;exact wp_store_row ty x y ho B cs hx hy t old hB hi hold h1 (hK _ _ (h _ k1 k2))
end
end
section
open Go Go.RowKit Go.Shelf
section
variable {α:Type}{E:El α}{P:Program}{st:Td}
end
theorem a6u {W:Wd}{base Z:Nat}{t:Td}{s:Nat}(h:Blk W Z #[] t)(hb:base<=Z):W.ownsRow base t s (.slice (some ⟨Z,0,none⟩) 0 0) 0 []:=⟨by simp,.inr ⟨Z,0,#[],rfl,hb,h,yR _,by unfold maxLen;omega,by simp,by simp⟩⟩
theorem Lst.drop {α:Type}{E:El α}{n₀:Nat}{W:Wd}{b off cap:Nat}{l:List α}(h:Lst E n₀ W (.slice (some ⟨b,off,none⟩) l.length cap) l)(k:Nat)(hk:k<=l.length):Lst E n₀ W (.slice (some ⟨b,off+k*E.s,none⟩) (l.length-k) (cap-k)) (l.drop k):=by
 obtain⟨a',aI,e,h1,h2,h3⟩:=h
 cases e;refine⟨_,_,by rw[List.length_drop],by rw[List.length_drop];omega,by rw[List.length_drop];omega,λj hj=> ?_⟩;rw[List.length_drop]at hj;obtain⟨b',fh,e2,ag,hc⟩:=h3 (k+j) oM;simp only[Option.some.injEq,Addr.mk.injEq,and_true]at e2;obtain⟨rfl,rfl⟩:=e2;refine⟨b,off+k*E.s,rfl,ag,λi hi=> ?_⟩;rw[List.getElem_drop,<-hc i hi];rw[Nat.add_mul,Nat.add_assoc off,Nat.add_assoc off]
end
end Go.Proofs.YtfocdbjceedagaaGreatDoor
