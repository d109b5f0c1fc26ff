/-
  Parts.
-/
import Derived.Test.YteijfnkidefekaaGreatEai
set_option linter.unusedVariables false
set_option linter.unusedSimpArgs false
set_option linter.unusedSectionVars false
namespace Go.Proofs.YteijfnkidefekaaGreat
open Tryz
section
structure Ek where
 id:Int
 line:List a3v
 lf:Int
 rt:Int
structure Fc where
 id:Int
 cls:ByteArray
 nm:ByteArray
 wt:Int
 ds:Int
structure Wk where
 id:Int
 line:List a3v
 lvl:Int
 cls:ByteArray
 nm:ByteArray
 st:Bool
 wt:Int
 ds:Int
instance : DecidableEq Ek:=λa b=>decidable_of_iff (a.id=b.id/\a.line=b.line/\a.lf=b.lf/\a.rt=b.rt) (by cases a;cases b;simp)
instance : DecidableEq Fc:=λa b=>decidable_of_iff (a.id=b.id/\a.cls=b.cls/\a.nm=b.nm/\a.wt=b.wt/\a.ds=b.ds) (by cases a;cases b;simp)
instance : DecidableEq Wk:=λa b=>decidable_of_iff (a.id=b.id/\a.line=b.line/\a.lvl=b.lvl/\a.cls=b.cls/\a.nm=b.nm/\a.st=b.st/\a.wt=b.wt/\a.ds=b.ds) (by cases a;cases b;simp)
instance : DecidableEq Pc:=λa b=>decidable_of_iff (a.id=b.id/\a.x=b.x/\a.y=b.y/\a.cls=b.cls/\a.nm=b.nm/\a.wt=b.wt/\a.ds=b.ds) (by cases a;cases b;simp)
structure Mp where
 e:List Ek
 f:List Fc
 w:List Wk
 p:List Pc
section
variable {α:Type}(k:α->Int)
def Inc (l:List α):Prop:=l.Pairwise λa b=>k a<=k b
theorem a1q :∀ {l r:List α},Inc k l->Inc k r->l.Perm r->(l.map k).Nodup->l=r
 |[],r,_,_,h,_=>(List.Perm.nil_eq h)
 |x::l,[],_,_,h,_=>by have:=h.length_eq;simp at this
 |x::l,y::r,hl,hr,h,hn=>by
  unfold Inc at hl hr;rw[List.pairwise_cons]at hl hr;rw[List.map_cons,List.nodup_cons]at hn;have iF:x=y:=by
   rcases List.mem_cons.1 (h.mem_iff.1 (List.mem_cons_self (a:=x) (l:=l)))with e|hx
   ·exact e
   ·rcases List.mem_cons.1 (h.mem_iff.2 (List.mem_cons_self (a:=y) (l:=r)))with e|hy
    ·exact e.symm
    ·have h1:=hr.1 x hx
     have h2:=hl.1 y hy;exact absurd (List.mem_map.2 ⟨y,hy,xM⟩) hn.1
  subst iF;rw[a1q hl.2 hr.2 (List.Perm.cons_inv h) hn.2]
theorem a7g {l:List α}(h:(l.map k).Nodup):l.Nodup:=List.Pairwise.of_map k (λ_ _ h e=>h (by rw[e])) h
theorem b2j {l r:List α}(h1:(l.map k).Nodup)(h2:(r.map k).Nodup)(h:∀z,z∈l↔z∈r):l.Perm r :=
 (List.perm_ext_iff_of_nodup (a7g k h1) (a7g k h2)).2 h
theorem a2z {l:List α}(h:(l.map k).Nodup){a b:α}(ha:a∈l)(hb:b∈l)(e:k a=k b):a=b:=by
 induction l with
 |nil=>cases ha
 |cons x l ih =>
  rw[List.map_cons,List.nodup_cons]at h;rcases List.mem_cons.1 ha with rfl|ha' <;> rcases List.mem_cons.1 hb with rfl|fw
  ·rfl
  ·exact absurd (List.mem_map.2 ⟨b,fw,e.symm⟩) h.1
  ·exact absurd (List.mem_map.2 ⟨a,ha',e⟩) h.1
  ·exact ih h.2 ha' fw
def put (y:α):List α->List α
 |[]=>[y]
 |x::l=>if k x=k y then y::l else x::put y l
theorem b4s (y z:α):∀ {l:List α},(l.map k).Nodup->(z∈put k y l↔z=y\/(z∈l/\k z≠k y))
 |[],_=>by simp[put]
 |x::l,h=>by
  rw[List.map_cons,List.nodup_cons]at h;unfold put;split
  ·rename_i e
   rw[List.mem_cons,List.mem_cons];constructor
   ·rintro(h1|h1)
    ·exact .inl h1
    ·exact .inr ⟨.inr h1,λe2=>h.1 (List.mem_map.2 ⟨z,h1,by rw[e2,e]⟩)⟩
   ·rintro(h1|⟨rfl|h1,h2⟩)
    ·exact .inl h1
    ·exact absurd e h2
    ·exact .inr h1
  ·rename_i e
   rw[List.mem_cons,b4s y z h.2,List.mem_cons];constructor
   ·rintro(rfl|h1|h1)
    ·exact .inr ⟨.inl rfl,e⟩
    ·exact .inl h1
    ·exact .inr ⟨.inr h1.1,h1.2⟩
   ·rintro(h1|⟨rfl|h1,h2⟩)
    ·exact .inr (.inl h1)
    ·exact .inl rfl
    ·exact .inr (.inr ⟨h1,h2⟩)
theorem b2k (y:α):∀ {l:List α},(l.map k).Nodup->((put k y l).map k).Nodup
 |[],_=>by simp[put]
 |x::l,h=>by
  have h0:=h;rw[List.map_cons,List.nodup_cons]at h;unfold put;split
  ·rename_i e
   rw[List.map_cons,List.nodup_cons,<-e];exact h
  ·rename_i e
   rw[List.map_cons,List.nodup_cons];refine⟨λhm=> ?_,b2k y h.2⟩;obtain⟨z,hz,e2⟩:=List.mem_map.1 hm;rcases(b4s k y z h.2).1 hz with rfl|⟨h3,-⟩
   ·exact e e2.symm
   ·exact h.1 (List.mem_map.2 ⟨z,h3,e2⟩)
theorem a8j :∀(ys:List α) {l:List α},(l.map k).Nodup->(ys.map k).Nodup->((ys.foldl (λl y=>put k y l) l).map k).Nodup/\∀z,z∈ys.foldl (λl y=>put k y l) l↔z∈ys\/(z∈l/\k z∉ys.map k)
 |[],l,h,_=>⟨h,λz=>by simp⟩
 |y::ys,l,h,hy=>by
  rw[List.map_cons,List.nodup_cons]at hy;obtain⟨h1,h2⟩:=a8j ys (b2k k y h) hy.2;refine⟨h1,λz=> ?_⟩;rw[List.foldl_cons,h2,b4s k y z h,List.mem_cons,List.map_cons,List.mem_cons];constructor
  ·rintro(h3|⟨rfl|⟨h3,h4⟩,h5⟩)
   ·exact .inl (.inr h3)
   ·exact .inl (.inl rfl)
   ·exact .inr ⟨h3,λh6=>h6.elim h4 h5⟩
  ·rintro((rfl|h3)|⟨h3,h4⟩)
   ·exact .inr ⟨.inl rfl,hy.1⟩
   ·exact .inl h3
   ·exact .inr ⟨.inr ⟨h3,λe=>h4 (.inl e)⟩,λe=>h4 (.inr e)⟩
theorem c3l {l m:List α}(hl:(l.map k).Nodup)(hm:(m.map k).Nodup)(g:α->Bool)(hg:∀y∈m,g y=false↔y∈l) :
 ∀z,z∈(m.filter g).foldl (λl y=>put k y l) (l.filter λx=>decide (k x∈m.map k))↔z∈m:=by
 intro z;have hs:((m.filter g).map k).Nodup:=List.Nodup.sublist (List.Sublist.map k List.filter_sublist) hm;have hf:((l.filter λx=>decide (k x∈m.map k)).map k).Nodup:=List.Nodup.sublist (List.Sublist.map k List.filter_sublist) hl;rw[(a8j k _ hf hs).2 z];simp only[List.mem_filter,decide_eq_true_eq];constructor
 ·rintro(h|⟨⟨h1,h2⟩,h3⟩)
  ·exact h.1
  ·obtain⟨y,hy,e⟩:=List.mem_map.1 h2
   cases hgy:g y with
   |true=>exact absurd (List.mem_map.2 ⟨y,List.mem_filter.2 ⟨hy,hgy⟩,e⟩) h3
   |false =>
    have:=(hg y hy).1 hgy;rw[<-a2z k hl this h1 e];exact hy
 ·intro h
  cases hgz:g z with
  |true=>exact .inl ⟨h,rfl⟩
  |false =>
   refine .inr ⟨⟨(hg z h).1 hgz,List.mem_map.2 ⟨z,h,rfl⟩⟩,λh3=> ?_⟩;obtain⟨y,hy,e⟩:=List.mem_map.1 h3;obtain⟨h4,h5⟩:=List.mem_filter.1 hy;rw[a2z k hm h4 h e,hgz]at h5
   cases h5
theorem a9d {l m:List α}(hl:(l.map k).Nodup)(hm:(m.map k).Nodup)(g:α->Bool):(((m.filter g).foldl (λl y=>put k y l) (l.filter λx=>decide (k x∈m.map k))).map k).Nodup :=
 (a8j k _ (List.Nodup.sublist (List.Sublist.map k List.filter_sublist) hl) (List.Nodup.sublist (List.Sublist.map k List.filter_sublist) hm)).1
end
section
variable {α β:Type}(k:α->Int)(j:β->Int)(u:α->β->α)
theorem a8k (hu:∀x y,k (u x y)=k x):∀(ys:List β) (l:List α),ys.foldl (λl y=>l.map λx=>if k x=j y then u x y else x) l=l.map λx=>(ys.filter λy=>decide (j y=k x)).foldl u x
 |[],l=>by simp
 |y::ys,l=>by
  rw[List.foldl_cons,a8k hu ys,List.map_map];apply List.map_congr_left;intro x _;simp only[Function.comp_apply,List.filter_cons];by_cases h:k x=j y
  ·rw[if_pos h,hu,if_pos (by simp[h]),List.foldl_cons]
  ·rw[if_neg h,if_neg (by simpa using λe=>h e.symm)]
end
structure Ed where
 kind:Int
 id:Int
 n:Int
 pt:a3v
 face:Fc
 way:Wk
 place:Pc
def fcZ :Fc:=⟨0,⟨#[]⟩,⟨#[]⟩,0,0⟩
def wkZ :Wk:=⟨0,[],0,⟨#[]⟩,⟨#[]⟩,false,0,0⟩
def pcZ :Pc:=⟨0,0,0,⟨#[]⟩,⟨#[]⟩,0,0⟩
def a9e (i:Int):Ed:=⟨4,i,0,(0,0),fcZ,wkZ,pcZ⟩
def a8l (x:Fc):Ed:=⟨1,0,0,(0,0),x,wkZ,pcZ⟩
def b2l (x:Wk):Ed:=⟨2,0,0,(0,0),fcZ,x,pcZ⟩
def a3k (x:Pc):Ed:=⟨3,0,0,(0,0),fcZ,wkZ,x⟩
def a6k (i:Int)(n:Nat)(p:a3v):Ed:=⟨5,i,n,p,fcZ,wkZ,pcZ⟩
def b0p (x y:Fc):Fc:={ x with cls:=y.cls,nm:=y.nm,wt:=y.wt }
def a6l (x:Ek)(d:Ed):Ek:=if 0<=d.n/\d.n<x.line.length then{ x with line:=x.line.set d.n.toNat d.pt }else x
def a2b (m:Mp)(d:Ed):Mp :=
 if d.kind=4 then{ m with w:=m.w.filter (λx=>decide (x.id≠d.id)),p:=m.p.filter (λx=>decide (x.id≠d.id)) }
 else if d.kind=1 then{ m with f:=m.f.map λx=>if x.id=d.face.id then b0p x d.face else x }
 else if d.kind=2 then{ m with w:=put Wk.id d.way m.w }
 else if d.kind=3 then{ m with p:=put Pc.id d.place m.p }
 else if d.kind=5 then{ m with e:=m.e.map λx=>if x.id=d.id then a6l x d else x }
 else m
def ids (m:Mp):List Int:=m.e.map Ek.id++(m.f.map Fc.id++(m.w.map Wk.id++m.p.map Pc.id))
def a5r (x y:Ek):List Ed:=(List.range y.line.length).filterMap λn=>if x.line[n]? =y.line[n]? then none else some (a6k y.id n (y.line.getD n (0,0)))
def a2m (R:List Int)(a b:Mp):List Ed :=
 R.map a9e++((b.f.filter λx=>decide (x∉a.f)).map a8l++((b.w.filter λx=>decide (x∉a.w)).map b2l++((b.p.filter λx=>decide (x∉a.p)).map a3k++(a.e.zip b.e).flatMap λq=>a5r q.1 q.2)))
def a2c (a b:Mp):Bool :=
 (a.e.map λx=>(x.id,x.lf,x.rt,x.line.length))==(b.e.map λx=>(x.id,x.lf,x.rt,x.line.length))&&(a.f.map λx=>(x.id,x.ds))==(b.f.map λx=>(x.id,x.ds))
structure NormR (a b:Mp):Prop where
 e:a.e.Perm b.e/\Inc Ek.id b.e
 f:a.f.Perm b.f/\Inc Fc.id b.f
 w:a.w.Perm b.w/\Inc Wk.id b.w
 p:a.p.Perm b.p/\Inc Pc.id b.p
theorem Mp.ext' {a b:Mp}(h1:a.e=b.e)(h2:a.f=b.f)(h3:a.w=b.w)(h4:a.p=b.p):a=b:=by cases a;cases b;simp_all
theorem c0b :∀(R:List Int) (m:Mp),(R.map a9e).foldl a2b m={ m with w:=m.w.filter (λx=>decide (x.id∉R)),p:=m.p.filter (λx=>decide (x.id∉R)) }
 |[],m=>Mp.ext' rfl rfl (List.filter_eq_self.2 vM).symm (List.filter_eq_self.2 vM).symm
 |r::R,m=>by
  rw[List.map_cons,List.foldl_cons,c0b R];show Mp.mk _ _ _ _=Mp.mk _ _ _ _;congr 1
  ·show List.filter _ (List.filter _ m.w)=_
   exact yie
  ·show List.filter _ (List.filter _ m.p)=_
   exact yie
theorem b6w :∀(l:List Fc) (m:Mp),(l.map a8l).foldl a2b m={ m with f:=l.foldl (λf y=>f.map λx=>if x.id=y.id then b0p x y else x) m.f }
 |[],m=>rfl
 |y::l,m=>by
  rw[List.map_cons,List.foldl_cons,b6w l];rfl
theorem c0c :∀(l:List Wk) (m:Mp),(l.map b2l).foldl a2b m={ m with w:=l.foldl (λf y=>put Wk.id y f) m.w }
 |[],m=>rfl
 |y::l,m=>by
  rw[List.map_cons,List.foldl_cons,c0c l];rfl
theorem b2m :∀(l:List Pc) (m:Mp),(l.map a3k).foldl a2b m={ m with p:=l.foldl (λf y=>put Pc.id y f) m.p }
 |[],m=>rfl
 |y::l,m=>by
  rw[List.map_cons,List.foldl_cons,b2m l];rfl
theorem b2n :∀(l:List Ed) (m:Mp),(∀d∈l,d.kind=5)->l.foldl a2b m={ m with e:=l.foldl (λf y=>f.map λx=>if x.id=y.id then a6l x y else x) m.e }
 |[],m,_=>rfl
 |y::l,m,h=>by
  rw[List.foldl_cons,b2n l _ λd hd=>h d (List.mem_cons_of_mem _ hd)];have:=h y List.mem_cons_self;unfold a2b;rw[this];rfl
theorem c3m (x:Ek)(d:Ed):(a6l x d).id=x.id:=by unfold a6l;split <;> rfl
theorem b6x (y:Ek):∀(N:Nat) (x x0:Ek),x.line.length=y.line.length->N<=y.line.length->x0.line.length=y.line.length->
 (∀n,n<N->x.line[n]? =x0.line[n]?)->
 ∃z:List a3v,(((List.range N).filterMap λn=>if x0.line[n]? =y.line[n]? then none else some (a6k y.id n (y.line.getD n (0,0)))).foldl a6l x)={ x with line:=z }/\z.length=y.line.length/\(∀n,n<N->z[n]? =y.line[n]?)/\∀n,N<=n->z[n]? =x.line[n]?
 |0,x,x0,hx,_,_,_=>⟨x.line,rfl,hx,λn h=>absurd h (Nat.not_lt_zero n),λ_ _=>rfl⟩
 |N+1,x,x0,hx,hN,h0,he=>by
  obtain⟨z,h1,h2,h3,h4⟩:=b6x y N x x0 hx xM h0 λn hn=>he n xM
  rw[List.range_succ,List.filterMap_append,List.foldl_append,h1];simp only[List.filterMap_cons,List.filterMap_nil];split
  ·rename_i hs
   split at hs
   ·rename_i e
    refine⟨z,rfl,h2,λn hn=> ?_,λn hn=>h4 n xM⟩;by_cases Bh:n=N
    ·subst Bh;rw[h4 n (yR _),he n xM,e]
    ·exact h3 n xM
   ·cases hs
  ·rename_i d hs
   split at hs
   ·cases hs
   ·cases hs
    refine⟨z.set N (y.line.getD N (0,0)),?_,by simpa using h2,λn hn=> ?_,λn hn=> ?_⟩
    ·show a6l _ _=_
     unfold a6l a6k;simp only[Int.toNat_natCast];rw[if_pos ⟨xM,xM⟩]
    ·rw[List.getElem?_set]
     by_cases Bh:N=n
     ·subst Bh
      rw[if_pos rfl,if_pos xM,List.getD_eq_getElem?_getD,List.getElem?_eq_getElem xM];rfl
     ·rw[if_neg Bh]
      exact h3 n xM
    ·rw[List.getElem?_set,if_neg xM]
     exact h4 n xM
theorem c5r (x y:Ek)(h:x.line.length=y.line.length):(a5r x y).foldl a6l x={ x with line:=y.line }:=by
 obtain⟨z,h1,h2,h3,h4⟩:=b6x y y.line.length x x h (yR _) h λ_ _=>rfl
 unfold a5r;rw[h1];congr 1;apply List.ext_getElem?;intro n;by_cases hn:n<y.line.length
 ·exact h3 n hn
 ·rw[List.getElem?_eq_none xM,List.getElem?_eq_none xM]
theorem a9s {β:Type}(j:β->Int)(n:Int):∀ {m:List β},(m.map j).Nodup->∀ {y},y∈m->j y=n->(m.filter λz=>decide (j z=n))=[y]
 |[],_,y,hy,_=>by cases hy
 |z::m,h,y,hy,e=>by
  rw[List.map_cons,List.nodup_cons]at h;rcases List.mem_cons.1 hy with rfl|hy
  ·rw[List.filter_cons,if_pos (by simpa using e)]
   congr 1;rw[List.filter_eq_nil_iff];intro z hz;simp only[decide_eq_true_eq];exact λe2=>h.1 (List.mem_map.2 ⟨z,hz,e2.trans e.symm⟩)
  ·rw[List.filter_cons,if_neg]
   ·exact a9s j n h.2 hy e
   ·simp only[decide_eq_true_eq]
    exact λe2=>h.1 (List.mem_map.2 ⟨y,hy,e.trans e2.symm⟩)
theorem a5s {α β γ:Type}(f:α->γ)(g:β->γ):∀ {l:List α} {m:List β},l.map f=m.map g->∀q∈l.zip m,f q.1=g q.2
 |[],m,_,q,hq=>by simp at hq
 |x0::l,[],h,_,_=>by simp at h
 |x0::l,y0::m,h,q,hq=>by
  rw[List.map_cons,List.map_cons,List.cons.injEq]at h;rw[List.zip_cons_cons]at hq;rcases List.mem_cons.1 hq with rfl|hq
  ·exact h.1
  ·exact a5s f g h.2 q hq
theorem b6y {α:Type}{l l0 m:List α}(hp:l0.Perm l)(t:α->α)(ht:l.map t=m):(l0.map t).Perm m:=by
 rw[<-ht];exact hp.map t
theorem b4t {α:Type}(t:α->α):∀ {l m:List α},l.length=m.length->(∀q∈l.zip m,t q.1=q.2)->l.map t=m
 |[],[],_,_=>rfl
 |[],_::_,h,_=>by simp at h
 |_::_,[],h,_=>by simp at h
 |x::l,y::m,h,hq=>by
  rw[List.map_cons,b4t t (by simpa using h) λq rH=>hq q (by rw[List.zip_cons_cons];exact List.mem_cons_of_mem _ rH)];rw[hq (x,y) vM]
theorem c0d {a0 a b:List Fc}(hp:a0.Perm a)(hn:(a.map Fc.id).Nodup)(hf:(a.map λx=>(x.id,x.ds))=(b.map λx=>(x.id,x.ds))) :
 ((b.filter λx=>decide (x∉a)).foldl (λf y=>f.map λx=>if x.id=y.id then b0p x y else x) a0).Perm b:=by
 rw[a8k Fc.id Fc.id b0p (λx y=>rfl)];have hid:a.map Fc.id=b.map Fc.id:=by
  exact yjw
 have rJ:(b.map Fc.id).Nodup:=hid▸hn;refine b6y hp _ (b4t _ (by simpa using congrArg List.length hid) λq hq=> ?_);obtain⟨x,y⟩:=q;have hk:=a5s (λx:Fc=>(x.id,x.ds)) (λx:Fc=>(x.id,x.ds)) hf _ hq;simp only[Prod.mk.injEq]at hk;have hx:=(List.of_mem_zip hq).1;have hy:=(List.of_mem_zip hq).2;show((b.filter λx=>decide (x∉a)).filter λz=>decide (z.id=x.id)).foldl b0p x=y;rw[List.filter_filter];have e1:(b.filter λz=>decide (z.id=x.id)&&decide (z∉a))=(b.filter λz=>decide (z.id=x.id)).filter λz=>decide (z∉a):=by
  rw[List.filter_filter];congr 1;funext z;rw[Bool.and_comm]
 rw[e1,a9s Fc.id x.id rJ hy hk.1.symm];by_cases h:y∈a
 ·have:x=y:=a2z Fc.id hn hx h hk.1
  subst this;simp[h]
 ·simp only[List.filter_cons,List.filter_nil,h,not_false_eq_true,decide_true,if_true,List.foldl_cons,List.foldl_nil]
  unfold b0p
  cases x
  cases y;simp_all
theorem a8m {α β:Type}(j:β->Int)(n:Int)(g:α->List β)(y:α):∀(l:List α),(∀q∈l,∀d∈g q,j d=n->q=y)->(∀d∈g y,j d=n)->l.Nodup->y∈l->(l.flatMap g).filter (λd=>decide (j d=n))=g y
 |[],_,_,_,hy=>by cases hy
 |q::l,h1,h2,hn,hy=>by
  rw[List.flatMap_cons,List.filter_append];rw[List.nodup_cons]at hn;have fK:∀(m:List α),y∉m->(∀q∈m,∀d∈g q,j d=n->q=y)->(m.flatMap g).filter (λd=>decide (j d=n))=[]:=λm hm hh=>by
   rw[List.filter_eq_nil_iff];intro d hd;obtain⟨q,hq,Mj⟩:=List.mem_flatMap.1 hd;simp only[decide_eq_true_eq];intro e;exact hm (hh q hq d Mj e▸hq)
  by_cases e:q=y
  ·subst e
   rw[fK l hn.1 λq' rH=>h1 q' (List.mem_cons_of_mem _ rH),List.append_nil,List.filter_eq_self.2];intro d hd;simpa using h2 d hd
  ·rw[a8m j n g y l (λq' rH=>h1 q' (List.mem_cons_of_mem _ rH)) h2 hn.2 ((List.mem_cons.1 hy).resolve_left λe'=>e e'.symm)]
   rw[List.filter_eq_nil_iff.2,List.nil_append];intro d hd;simp only[decide_eq_true_eq];exact λe'=>e (h1 q List.mem_cons_self d hd e')
theorem a4j {x y:Ek}{d:Ed}(h:d∈a5r x y):d.kind=5/\d.id=y.id:=by
 unfold a5r at h;obtain⟨n,-,hn⟩:=List.mem_filterMap.1 h;split at hn
 ·cases hn
 ·cases hn
  exact⟨rfl,rfl⟩
theorem b2o {α:Type}(k:α->Int):∀ {l m:List α},(l.map k).Nodup->(l.zip m).Nodup
 |[],m,_=>by simp
 |x::l,[],_=>by simp
 |x::l,y::m,h=>by
  rw[List.map_cons,List.nodup_cons]at h;rw[List.zip_cons_cons,List.nodup_cons];exact⟨λhm=>h.1 (List.mem_map.2 ⟨x,(List.of_mem_zip hm).1,rfl⟩),b2o k h.2⟩
theorem c0e {α:Type}(k:α->Int):∀ {l m:List α},(l.map k).Nodup->∀ {q r:α×α},q∈l.zip m->r∈l.zip m->k q.1=k r.1->q=r
 |[],m,_,q,r,hq,_,_=>by simp at hq
 |x::l,[],_,q,r,hq,_,_=>by simp at hq
 |x::l,y::m,h,q,r,hq,hr,e=>by
  rw[List.map_cons,List.nodup_cons]at h;rw[List.zip_cons_cons]at hq hr;rcases List.mem_cons.1 hq with rfl|rH <;> rcases List.mem_cons.1 hr with rfl|jD
  ·rfl
  ·exact absurd (List.mem_map.2 ⟨r.1,(List.of_mem_zip (a:=r.1) (b:=r.2) jD).1,e.symm⟩) h.1
  ·exact absurd (List.mem_map.2 ⟨q.1,(List.of_mem_zip (a:=q.1) (b:=q.2) rH).1,e⟩) h.1
  ·exact c0e k h.2 rH jD e
theorem c0f {a0 a b:List Ek}(hp:a0.Perm a)(hn:(a.map Ek.id).Nodup)(hf:(a.map λx=>(x.id,x.lf,x.rt,x.line.length))=(b.map λx=>(x.id,x.lf,x.rt,x.line.length))) :
 (((a.zip b).flatMap λq=>a5r q.1 q.2).foldl (λf y=>f.map λx=>if x.id=y.id then a6l x y else x) a0).Perm b:=by
 rw[a8k Ek.id Ed.id a6l c3m];have hid:a.map Ek.id=b.map Ek.id:=by
  exact yjw
 refine b6y hp _ (b4t _ (by simpa using congrArg List.length hid) λq hq=> ?_);have hk:=a5s (λx:Ek=>(x.id,x.lf,x.rt,x.line.length)) (λx:Ek=>(x.id,x.lf,x.rt,x.line.length)) hf _ hq;simp only[Prod.mk.injEq]at hk;rw[a8m Ed.id q.1.id (λq=>a5r q.1 q.2) q (a.zip b) (λr hr d hd e=> ?_) (λd hd=>(a4j hd).2.trans hk.1.symm) (b2o Ek.id hn) hq]
 ·rw[c5r q.1 q.2 hk.2.2.2]
  obtain⟨x,y⟩:=q
  cases x
  cases y;simp_all
 ·refine c0e Ek.id hn hr hq ?_
  have:=a5s Ek.id Ek.id hid _ hr;rw[this,<-(a4j hd).2,e]
theorem a5h {m:Mp}(h:(ids m).Nodup):(m.e.map Ek.id).Nodup/\(m.f.map Fc.id).Nodup/\(m.w.map Wk.id).Nodup/\(m.p.map Pc.id).Nodup/\∀x∈m.w,∀y∈m.p,x.id≠y.id:=by
 unfold ids at h;rw[List.nodup_append]at h;obtain⟨h1,h2,-⟩:=h;rw[List.nodup_append]at h2;obtain⟨h3,h4,-⟩:=h2;rw[List.nodup_append]at h4;exact⟨h1,h3,h4.1,h4.2.1,λx hx y hy=>h4.2.2 _ (List.mem_map.2 ⟨x,hx,rfl⟩) _ (List.mem_map.2 ⟨y,hy,rfl⟩)⟩
theorem c0g {α:Type} [DecidableEq α](k:α->Int){a0 a b:List α}(hp:a0.Perm a)(ha:(a.map k).Nodup)(hb:(b.map k).Nodup)(R:List Int)(hR:∀x∈a,k x∈R↔k x∉b.map k) :
 ((b.filter λx=>decide (x∉a)).foldl (λf y=>put k y f) (a0.filter λx=>decide (k x∉R))).Perm b:=by
 have h0:(a0.map k).Nodup:=(hp.map k).nodup_iff.2 ha;have e:(a0.filter λx=>decide (k x∉R))=a0.filter λx=>decide (k x∈b.map k):=by
  apply List.filter_congr;intro x hx;have:=hR x (hp.mem_iff.1 hx);by_cases II:k x∈b.map k
  ·simp[II,this]
  ·simp only[II,this,not_true,not_false_eq_true,decide_false]
 rw[e];refine b2j k (a9d k h0 hb _) hb (c3l k h0 hb _ λy hy=> ?_);rw[decide_eq_false_iff_not,Classical.not_not];exact hp.mem_iff.symm
theorem c0h (a0 b0 a b:Mp)(hA:NormR a0 a)(hB:NormR b0 b)(pa:(ids a0).Nodup)(pb:(ids b0).Nodup)(hf:a2c a b=true)(R:List Int)
 (hR:∀i,i∈R↔(i∈a.w.map Wk.id/\i∉b.w.map Wk.id)\/(i∈a.p.map Pc.id/\i∉b.p.map Pc.id)) (c:Mp) (hc:NormR ((a2m R a b).foldl a2b a0) c):c=b:=by
 obtain⟨n1,n2,n3,n4,n5⟩:=a5h pa;obtain⟨m1,m2,m3,m4,m5⟩:=a5h pb;have q1:(a.e.map Ek.id).Nodup:=(hA.e.1.map _).nodup_iff.1 n1;have q2:(a.f.map Fc.id).Nodup:=(hA.f.1.map _).nodup_iff.1 n2;have q3:(a.w.map Wk.id).Nodup:=(hA.w.1.map _).nodup_iff.1 n3;have q4:(a.p.map Pc.id).Nodup:=(hA.p.1.map _).nodup_iff.1 n4;have r1:(b.e.map Ek.id).Nodup:=(hB.e.1.map _).nodup_iff.1 m1;have r2:(b.f.map Fc.id).Nodup:=(hB.f.1.map _).nodup_iff.1 m2;have r3:(b.w.map Wk.id).Nodup:=(hB.w.1.map _).nodup_iff.1 m3;have r4:(b.p.map Pc.id).Nodup:=(hB.p.1.map _).nodup_iff.1 m4;have qd:∀x∈a.w,∀y∈a.p,x.id≠y.id:=λx hx y hy=>n5 x (hA.w.1.mem_iff.2 hx) y (hA.p.1.mem_iff.2 hy)
 unfold a2c at hf;simp only[Bool.and_eq_true,beq_iff_eq]at hf;unfold a2m at hc;rw[List.foldl_append,List.foldl_append,List.foldl_append,List.foldl_append,c0b,b6w,c0c,b2m,b2n _ _ (λd hd=>by
  obtain⟨q,-,hq⟩:=List.mem_flatMap.1 hd;exact(a4j hq).1)]at hc
 obtain⟨⟨c1,i1⟩,⟨c2,i2⟩,⟨c3,i3⟩,⟨c4,i4⟩⟩:=hc;simp only at c1 c2 c3 c4;have p1:=c1.symm.trans (c0f hA.e.1 q1 hf.1);have p2:=c2.symm.trans (c0d hA.f.1 q2 hf.2);have p3:=c3.symm.trans (c0g Wk.id hA.w.1 q3 r3 R λx hx=>by
  rw[hR];constructor
  ·rintro(h|⟨h,-⟩)
   ·exact h.2
   ·obtain⟨y,hy,e⟩:=List.mem_map.1 h
    exact absurd e.symm (qd x hx y hy)
  ·exact λh=> .inl ⟨List.mem_map.2 ⟨x,hx,rfl⟩,h⟩)
 have p4:=c4.symm.trans (c0g Pc.id hA.p.1 q4 r4 R λx hx=>by
  rw[hR];constructor
  ·rintro(⟨h,-⟩|h)
   ·obtain⟨y,hy,e⟩:=List.mem_map.1 h
    exact absurd e (qd y hy x hx)
   ·exact h.2
  ·exact λh=> .inr ⟨List.mem_map.2 ⟨x,hx,rfl⟩,h⟩)
 exact Mp.ext' (a1q Ek.id i1 hB.e.2 p1 ((p1.map _).nodup_iff.2 r1)) (a1q Fc.id i2 hB.f.2 p2 ((p2.map _).nodup_iff.2 r2)) (a1q Wk.id i3 hB.w.2 p3 ((p3.map _).nodup_iff.2 r3)) (a1q Pc.id i4 hB.p.2 p4 ((p4.map _).nodup_iff.2 r4))
end
section
open Go Go.RowKit Go.Shelf Go.Lib
abbrev ptE :El a3v:=⟨41,2,λp=>[.int .i64 p.1,.int .i64 p.2]⟩
theorem c3n :ptE.Ok:=⟨λ_=>rfl,jM,λx u hu=>by
 simp at hu;rcases hu with rfl|rfl <;> rfl⟩
theorem c9z :ptE.In prog 44:=El.in_of (z:= .agg #[.int .i64 0,.int .i64 0]) (s:=2) (bytes:=16) underlying44 zM rfl xM rfl
structure Eg where
 id:Int
 la:Option Addr
 ln:Nat
 lc:Nat
 line:List a3v
 lf:Int
 rt:Int
instance : Inhabited Eg:=⟨⟨0,none,0,0,[],0,0⟩⟩
abbrev Eg.sl (x:Eg):Value:= .slice x.la x.ln x.lc
def Eg.key (x:Eg):Ek:=⟨x.id,x.line,x.lf,x.rt⟩
abbrev egE :El Eg:=⟨71,4,λx=>[.int .i64 x.id,.slice x.la x.ln x.lc,.int .i64 x.lf,.int .i64 x.rt]⟩
theorem a9b :egE.Ok:=⟨λ_=>rfl,jM,λx u hu=>by
 simp at hu;rcases hu with rfl|rfl|rfl|rfl <;> rfl⟩
theorem c9u :egE.In prog 27:=El.in_of (z:= .agg #[.int .i64 0,.slice none 0 0,.int .i64 0,.int .i64 0]) (s:=4) (bytes:=48) underlying27 zM rfl xM rfl
instance : Inhabited Fc:=⟨⟨0,⟨#[]⟩,⟨#[]⟩,0,0⟩⟩
abbrev fcE :El Fc:=⟨43,5,λx=>[.int .i64 x.id,.string x.cls,.string x.nm,.int .i64 x.wt,.int .i64 x.ds]⟩
theorem a9t :fcE.Ok:=⟨λ_=>rfl,jM,λx u hu=>by
 simp at hu;rcases hu with rfl|rfl|rfl|rfl|rfl <;> rfl⟩
theorem c9v :fcE.In prog 28:=El.in_of (z:= .agg #[.int .i64 0,.string ⟨#[]⟩,.string ⟨#[]⟩,.int .i64 0,.int .i64 0]) (s:=5) (bytes:=56) underlying28 zM rfl xM rfl
structure Wq where
 id:Int
 la:Option Addr
 ln:Nat
 lc:Nat
 line:List a3v
 lvl:Int
 cls:ByteArray
 nm:ByteArray
 st:Bool
 wt:Int
 ds:Int
instance : Inhabited Wq:=⟨⟨0,none,0,0,[],0,⟨#[]⟩,⟨#[]⟩,false,0,0⟩⟩
abbrev Wq.sl (x:Wq):Value:= .slice x.la x.ln x.lc
def Wq.key (x:Wq):Wk:=⟨x.id,x.line,x.lvl,x.cls,x.nm,x.st,x.wt,x.ds⟩
abbrev wqE :El Wq:=⟨46,8,λx=>[.int .i64 x.id,.slice x.la x.ln x.lc,.int .i64 x.lvl,.string x.cls,.string x.nm,.bool x.st,.int .i64 x.wt,.int .i64 x.ds]⟩
theorem a6d :wqE.Ok:=⟨λ_=>rfl,jM,λx u hu=>by
 simp at hu;rcases hu with rfl|rfl|rfl|rfl|rfl|rfl|rfl|rfl <;> rfl⟩
theorem c6y :wqE.In prog 29:=El.in_of (z:= .agg #[.int .i64 0,.slice none 0 0,.int .i64 0,.string ⟨#[]⟩,.string ⟨#[]⟩,.bool false,.int .i64 0,.int .i64 0]) (s:=8) (bytes:=96) underlying29 zM rfl xM rfl
structure Ln (n₀:Nat)(W:Wd)(v:Vu)(l:List a3v):Prop where
 lst:Lst ptE n₀ W v l
 frm:Frm v l.length
 len:l.length<=1000
section
variable {n₀ ek:Nat}{W W':Wd}{v:Vu}{l:List a3v}
theorem Ln.below (h:Ln n₀ W v l)(hb:Below n₀ W W'):Ln n₀ W' v l:=⟨h.lst.below hb,h.frm,h.len⟩
theorem Ln.mono (h:Ln n₀ W v l)(hn:n₀<=ek):Ln ek W v l:=⟨h.lst.mono hn,h.frm,h.len⟩
theorem Ln.up (h:Ln W.heap.size W v l)(hb:Below W.heap.size W W'):Ln W'.heap.size W' v l:=(h.below hb).mono hb.size
end
structure MapV (n₀:Nat)(W:Wd)(ev fv wv pv:Vu)(E:List Eg)(F:List Fc)(Y:List Wq)(P:List Pc):Prop where
 e:Lst egE n₀ W ev E
 ef:Frm ev E.length
 el:∀x∈E,Ln n₀ W x.sl x.line
 f:Lst fcE n₀ W fv F
 ff:Frm fv F.length
 w:Lst wqE n₀ W wv Y
 wf:Frm wv Y.length
 wl:∀x∈Y,Ln n₀ W x.sl x.line
 p:Lst plE n₀ W pv P
 pf:Frm pv P.length
 ne:E.length<=1000
 nf:F.length<=1000
 nw:Y.length<=1000
 np:P.length<=1000
 ei:∀x∈E,a0l x.id
 fi:∀x∈F,a0l x.id
 wi:∀x∈Y,a0l x.id
 pi:∀x∈P,a0l x.id
def a1d (E:List Eg)(F:List Fc)(Y:List Wq)(P:List Pc):Mp:=⟨E.map Eg.key,F,Y.map Wq.key,P⟩
section
variable {n₀ ek:Nat}{W W':Wd}{ev fv wv pv:Vu}{E:List Eg}{F:List Fc}{Y:List Wq}{P:List Pc}
theorem MapV.below (h:MapV n₀ W ev fv wv pv E F Y P)(hb:Below n₀ W W'):MapV n₀ W' ev fv wv pv E F Y P :=
 { h with e:=h.e.below hb,el:=λx hx=>(h.el x hx).below hb,f:=h.f.below hb,w:=h.w.below hb,wl:=λx hx=>(h.wl x hx).below hb,p:=h.p.below hb }
theorem MapV.mono (h:MapV n₀ W ev fv wv pv E F Y P)(hn:n₀<=ek):MapV ek W ev fv wv pv E F Y P :=
 { h with e:=h.e.mono hn,el:=λx hx=>(h.el x hx).mono hn,f:=h.f.mono hn,w:=h.w.mono hn,wl:=λx hx=>(h.wl x hx).mono hn,p:=h.p.mono hn }
theorem MapV.up (h:MapV W.heap.size W ev fv wv pv E F Y P)(hb:Below W.heap.size W W'):MapV W'.heap.size W' ev fv wv pv E F Y P:=(h.below hb).mono hb.size
end
/-! ### from typed worlds -/
theorem b2p {α:Type}{E:El α}(R:α->Prop){W:Wd}{b off n cap:Nat}(dq:n<=cap)(hb:b<W.heap.size)(hl:n<=1000000)
 (H:∀k,k<n->∃x,R x/\∀i,i<E.s->W.cell? ⟨b,off+k*E.s+i,none⟩=(E.enc x)[i]?):∃l:List α,l.length=n/\Lst E W.heap.size W (.slice (some ⟨b,off,none⟩) n cap) l/\∀x∈l,R x:=by
 have H':∀k:Fin n,∃x,R x/\∀i,i<E.s->W.cell? ⟨b,off+k.1*E.s+i,none⟩=(E.enc x)[i]? :=λk=>H k.1 k.2
 refine⟨List.ofFn λk=>Classical.choose (H' k),by simp,⟨some ⟨b,off,none⟩,cap,by simp,by simpa using dq,by simpa using hl,λj hj=>⟨b,off,rfl,hb,?_⟩⟩,λx hx=> ?_⟩
 ·have gK:j<n:=by simpa using hj
  have:=(Classical.choose_spec (H' ⟨j,gK⟩)).2;simpa using this
 ·obtain⟨j,hj,rfl⟩:=List.getElem_of_mem hx
  have gK:j<n:=by simpa using hj
  have:=(Classical.choose_spec (H' ⟨j,gK⟩)).1;simpa using this
theorem b6z {α:Type}{E:El α}(R:α->Prop){S:BS}{W:Wd}{v:Vu}{n:Nat}{t:Td}(hT:TW S W)(h:SL S W t v n)(hl:n<=1000)
 (H:∀b off cap,SL S W t (.slice (some ⟨b,off,none⟩) n cap) n->∀k,k<n->∃x,R x/\∀i,i<E.s->W.cell? ⟨b,off+k*E.s+i,none⟩=(E.enc x)[i]?):∃l:List α,l.length=n/\Lst E W.heap.size W v l/\Frm v l.length/\∀x∈l,R x:=by
 by_cases hn:n=0
 ·subst hn
  obtain⟨a,cap,rfl,-,⟨rfl,rfl⟩|⟨b,o,c,rfl,hb,hc,-⟩⟩:=h
  ·exact⟨[],rfl,Lst.nil _ _ _,.inl rfl,λx hx=>by cases hx⟩
  ·exact⟨[],rfl,⟨_,cap,rfl,Nat.zero_le _,Nat.zero_le _,λj hj=>absurd hj (Nat.not_lt_zero j)⟩,.inr ⟨_,_,_,rfl⟩,λx hx=>by cases hx⟩
 ·obtain⟨b,off,cap,rfl,hc,hS⟩:=h.some_ xM
  obtain⟨l,h1,h2,h3⟩:=b2p (E:=E) R (off:=off) hc (hT.lt hS) xM (H b off cap h);exact⟨l,h1,h2,.inr ⟨b,off,cap,by rw[h1]⟩,h3⟩
theorem b7a {S:BS}{W:Wd}{v:Vu}{n:Nat}(hT:TW S W)(h:SL S W 41 v n)(hn:n<=100):∃l:List a3v,l.length=n/\Ln W.heap.size W v l:=by
 obtain⟨l,h1,h2,h3,-⟩:=b6z (E:=ptE) (λ_=>True) hT h xM λb off cap h k hk=>by
  obtain⟨u0,c0,h0⟩:=h.cell hT a1l hk 0 .int rfl;obtain⟨u1,c1,h1⟩:=h.cell hT a1l hk 1 .int rfl;obtain⟨x,rfl,-⟩:=h0.i rfl;obtain⟨y,rfl,-⟩:=h1.i rfl;refine⟨(x,y),trivial,λi hi=> ?_⟩;match i,hi with
  |0,_=>exact c0
  |1,_=>exact c1
 exact⟨l,h1,h2,h3,xM⟩
theorem c0i {S:BS}{W:Wd}{v:Vu}{n:Nat}(hT:TW S W)(h:SL S W 71 v n)(hn:n<=1000):∃l:List Eg,l.length=n/\Lst egE W.heap.size W v l/\Frm v l.length/\∀x∈l,Ln W.heap.size W x.sl x.line/\a0l x.id:=by
 refine b6z (E:=egE) (λx:Eg=>Ln W.heap.size W x.sl x.line/\a0l x.id) hT h hn λb off cap h k hk=> ?_
 obtain⟨id,l,r,lv,m,c0,c1,c2,c3,f0,-,-,hl,hm⟩:=h.edge hT hk;obtain⟨ps,-,hp⟩:=b7a hT hl hm;obtain⟨a,c,rfl,-⟩:=hl.form;refine⟨⟨id,a,m,c,ps,l,r⟩,⟨hp,f0⟩,λi hi=> ?_⟩;match i,hi with
 |0,_=>exact c0
 |1,_=>exact c1
 |2,_=>exact c2
 |3,_=>exact c3
theorem c0j {S:BS}{W:Wd}{v:Vu}{n:Nat}(hT:TW S W)(h:SL S W 43 v n)(hn:n<=1000):∃l:List Fc,l.length=n/\Lst fcE W.heap.size W v l/\Frm v l.length/\∀x∈l,a0l x.id:=by
 refine b6z (E:=fcE) (λx:Fc=>a0l x.id) hT h hn λb off cap h k hk=> ?_
 obtain⟨u0,c0,h0⟩:=h.cell hT a1f hk 0 .int rfl;obtain⟨u1,c1,h1⟩:=h.cell hT a1f hk 1 .str rfl;obtain⟨u2,c2,h2⟩:=h.cell hT a1f hk 2 .str rfl;obtain⟨u3,c3,h3⟩:=h.cell hT a1f hk 3 .int rfl;obtain⟨u4,c4,h4⟩:=h.cell hT a1f hk 4 .int rfl;obtain⟨id,rfl,f0⟩:=h0.i rfl;obtain⟨cs,rfl,-⟩:=h1.s rfl;obtain⟨ns,rfl,-⟩:=h2.s rfl;obtain⟨wt,rfl,-⟩:=h3.i rfl;obtain⟨ds,rfl,-⟩:=h4.i rfl;refine⟨⟨id,cs,ns,wt,ds⟩,f0,λi hi=> ?_⟩;match i,hi with
 |0,_=>exact c0
 |1,_=>exact c1
 |2,_=>exact c2
 |3,_=>exact c3
 |4,_=>exact c4
theorem c0k {S:BS}{W:Wd}{v:Vu}{n:Nat}(hT:TW S W)(h:SL S W 46 v n)(hn:n<=1000):∃l:List Wq,l.length=n/\Lst wqE W.heap.size W v l/\Frm v l.length/\∀x∈l,Ln W.heap.size W x.sl x.line/\a0l x.id:=by
 refine b6z (E:=wqE) (λx:Wq=>Ln W.heap.size W x.sl x.line/\a0l x.id) hT h hn λb off cap h k hk=> ?_
 obtain⟨id,lv,m,cF,cs,ns,st,wt,ds,c0,c1,c2,c3,c4,c5,c6,c7,f0,hl,hm,-⟩:=h.way hT hk;obtain⟨ps,-,hp⟩:=b7a hT hl hm;obtain⟨a,c,rfl,-⟩:=hl.form;refine⟨⟨id,a,m,c,ps,cF,cs,ns,st,wt,ds⟩,⟨hp,f0⟩,λi hi=> ?_⟩;match i,hi with
 |0,_=>exact c0
 |1,_=>exact c1
 |2,_=>exact c2
 |3,_=>exact c3
 |4,_=>exact c4
 |5,_=>exact c5
 |6,_=>exact c6
 |7,_=>exact c7
end
end Go.Proofs.YteijfnkidefekaaGreat
