/-
  A calculus of weakest preconditions over the compiled code of the functions that the law reaches, and its soundness. No condition.
-/
import Derived.Test.YtmcghihgeibgpaaDoorV2
set_option linter.all false
set_option maxRecDepth 2000
/-
  Frames, rows of cells, slices that are owned: plain facts on heaps.
-/
namespace Go.Vc
open Go
theorem Fr.mono {lo hi lo' hi':Nat} {h h':Heap} (a:Fr lo hi h h') (hl:hi≤lo∨h.size≤lo∨(lo'≤lo∧hi≤hi')):Fr lo' hi' h h':=
 ⟨a.size,fun x hx hc=>a.old x hx (by omega)⟩
theorem Fr.pure {lo hi:Nat} {h h':Heap} (a:Fr 0 0 h h'):Fr lo hi h h':=a.mono (by omega)
theorem Fr.fresh {lo hi:Nat} {h0 h h':Heap} (p:Fr 0 0 h0 h) (a:Fr lo hi h h') (hl:h0.size≤lo∨hi≤lo):Fr 0 0 h0 h':=
 ⟨Nat.le_trans p.size a.size,fun x hx hc=>(a.old x (Nat.lt_of_lt_of_le hx p.size) (by omega)).trans (p.old x hx hc)⟩
theorem Fr.freshIn {lo hi l r:Nat} {h0 h h':Heap} (p:Fr l r h0 h) (a:Fr lo hi h h') (hl:h0.size≤lo∨hi≤lo∨(l≤lo∧hi≤r)):Fr l r h0 h':=
 ⟨Nat.le_trans p.size a.size,fun x hx hc=>(a.old x (Nat.lt_of_lt_of_le hx p.size) (by omega)).trans (p.old x hx hc)⟩
theorem Fr.cell {lo hi:Nat} {h h':Heap} (a:Fr lo hi h h') {b o:Nat} (hb:b<h.size) (hc:b<lo∨hi≤b):hcell h' b o=hcell h b o:=by
 unfold hcell;rw [a.old b hb hc]
theorem hcell_lt {h:Heap} {b o:Nat} {v:Value} (hc:hcell h b o=some v):b<h.size:=by
 unfold hcell at hc
 split at hc
 ·rename_i hb;exact (Array.getElem?_eq_some_iff.1 hb).1
 ·cases hc
theorem Fr.keep {lo hi:Nat} {h h':Heap} (a:Fr lo hi h h') {b o:Nat} {v:Value} (hv:hcell h b o=some v) (hc:b<lo∨hi≤b):hcell h' b o=some v:=by
 rw [a.cell (hcell_lt hv) hc,hv]
def Rw (h:Heap) (b:Nat) (c:List Value):Prop:=∃ t,Blk h b t c
theorem Rw.cell {h:Heap} {b:Nat} {c:List Value} (r:Rw h b c) (o:Nat):hcell h b o=c[o]?:=by
 obtain ⟨t,r⟩:=r
 unfold hcell;rw [r];simp
theorem Rw.wr {h:Heap} {b:Nat} {c:List Value} (r:Rw h b c) {o n:Nat} (hn:o+n≤c.length):Wr h b o n:=by
 obtain ⟨t,r⟩:=r;exact ⟨t,c,r,hn⟩
theorem Rw.lt {h:Heap} {b:Nat} {c:List Value} (r:Rw h b c):b<h.size:=by
 obtain ⟨t,r⟩:=r;exact (Array.getElem?_eq_some_iff.1 r).1
theorem Rw.fr {lo hi:Nat} {h h':Heap} {b:Nat} {c:List Value} (r:Rw h b c) (a:Fr lo hi h h') (hc:b<lo∨hi≤b):Rw h' b c:=by
 have:=r.lt
 obtain ⟨t,r⟩:=r;exact ⟨t,(a.old b this hc).trans r⟩
/-! ### A new block -/
section
variable {h h' : Heap} {b : Nat} {c : List Value}
theorem New.size (n:New h h' b c):h'.size=h.size+1:=by obtain ⟨t,rfl⟩:=n.push;simp
theorem New.fr {lo hi:Nat} (n:New h h' b c):Fr lo hi h h':=by
 obtain ⟨t,rfl⟩:=n.push
 exact ⟨by simp,fun x hx _=>by simp [Array.getElem?_push,Nat.ne_of_lt hx]⟩
theorem New.row (n:New h h' b c):Rw h' b c:=by
 obtain ⟨t,rfl⟩:=n.push
 refine ⟨t,?_⟩
 unfold Blk;rw [n.at_];simp
theorem New.rw {b':Nat} {c':List Value} (n:New h h' b c) (r:Rw h b' c'):Rw h' b' c':=r.fr (n.fr (lo:=0) (hi:=0)) (by omega)
end
theorem modify_size (h:Heap) (b:Nat) (f:Obj→Obj):(h.modify b f).size=h.size:=by simp
theorem hset_blk {h:Heap} {b:Nat} {t:TypeId} {c:List Value} (r:Blk h b t c) (o:Nat) (v:Value):Blk (hset h b o v) b t (c.set o v):=by
 unfold Blk at *
 rw [hset_get,if_pos rfl,r];simp [hmod]
theorem hputs_old (vs:List Value):∀ (h:Heap) (b o x:Nat),x≠b→(hputs h b o vs)[x]?=h[x]?:=by
 induction vs with
 | nil=>intros;rfl
 | cons v vs ih=>intro h b o x hx;simp only [hputs];rw [ih _ _ _ _ hx,hset_get,if_neg (fun h=>hx h.symm)]
theorem hputs_blk (vs:List Value):∀ {h:Heap} {b:Nat} {t:TypeId} {c:List Value} (_:Blk h b t c) (o:Nat),Blk (hputs h b o vs) b t (putAt c o vs):=by
 induction vs with
 | nil=>intro h b t c r o;exact r
 | cons v vs ih=>intro h b t c r o;exact ih (hset_blk r o v) (o+1)
section
variable {h h' : Heap} {b o : Nat} {vs : List Value}
theorem Sto.size (s:Sto h h' b o vs):h'.size=h.size:=by rw [s.eq,hputs_size]
theorem Sto.fr (s:Sto h h' b o vs):Fr b (b+1) h h':=⟨Nat.le_of_eq s.size.symm,fun x _ hc=>by rw [s.eq,hputs_old];omega⟩
theorem Sto.row {c:List Value} (s:Sto h h' b o vs) (r:Rw h b c):Rw h' b (putAt c o vs):=by
 obtain ⟨t,r⟩:=r;exact ⟨t,by rw [s.eq];exact hputs_blk vs r o⟩
theorem Sto.rw {b':Nat} {c':List Value} (s:Sto h h' b o vs) (r:Rw h b' c') (hb:b'≠b):Rw h' b' c':=r.fr s.fr (by omega)
end
/-! ### Maps -/
section
variable {h h' : Heap} {b r : Nat} {o : Obj}
theorem NewO.size (n:NewO h h' b o):h'.size=h.size+1:=by rw [n.push];simp
theorem NewO.fr {lo hi:Nat} (n:NewO h h' b o):Fr lo hi h h':=by
 rw [n.push]
 exact ⟨by simp,fun x hx _=>by simp [Array.getElem?_push,Nat.ne_of_lt hx]⟩
theorem NewO.get (n:NewO h h' b o):h'[b]?=some o:=by rw [n.push,n.at_];simp
theorem StoO.size (s:StoO h h' r o):h'.size=h.size:=by rw [s.eq];simp [hobj]
theorem StoO.fr (s:StoO h h' r o):Fr r (r+1) h h':=⟨Nat.le_of_eq s.size.symm,fun x _ hc=>by rw [s.eq];unfold hobj;rw [Array.getElem?_setIfInBounds_ne (by omega)]⟩
theorem StoO.get (s:StoO h h' r o) {o':Obj} (ho:h[r]?=some o'):h'[r]?=some o:=by
 have:=(Array.getElem?_eq_some_iff.1 ho).1
 rw [s.eq];unfold hobj;simp [this]
theorem MapAt.lt {m:List (Int×Value)} (w:MapAt h r m):r<h.size:=(Array.getElem?_eq_some_iff.1 w).1
theorem MapAt.fr {lo hi:Nat} {m:List (Int×Value)} (w:MapAt h r m) (f:Fr lo hi h h') (hb:r<lo∨hi≤r):MapAt h' r m:=(f.old r w.lt hb).trans w
theorem IterAt.lt {n:Nat} {l:List Nat} (w:IterAt h b r n l):b<h.size:=(Array.getElem?_eq_some_iff.1 w).1
theorem IterAt.fr {lo hi n:Nat} {l:List Nat} (w:IterAt h b r n l) (f:Fr lo hi h h') (hb:b<lo∨hi≤b):IterAt h' b r n l:=(f.old b w.lt hb).trans w
theorem MapAt.of {m:List (Int×Value)} (w:MapAt h r m) {K:List (Int×Value)→Prop} {d:Dep K} (k:K m):withMap h r K d:=⟨m,w,k⟩
end
def MapF (h:Heap) (r:Nat) (f:Int→Option Value):Prop:=∃ m,MapAt h r m∧(m.map (·.1)).Nodup∧∀ k,(mfind m k).map (·.2)=f k
theorem mfind_none {m:List (Int×Value)} {k:Int} (h:mfind m k=none):k∉m.map (·.1):=by
 induction m with
 | nil=>simp
 | cons p m ih =>
  obtain ⟨k',v⟩:=p
  unfold mfind at h
  split at h
  ·cases h
  ·rename_i hk
   simp only [Option.map_eq_none_iff] at h
   simp only [List.map_cons,List.mem_cons,not_or]
   exact ⟨hk,ih h⟩
theorem mfind_get {m:List (Int×Value)} (hn:(m.map (·.1)).Nodup):∀ {i:Nat} {k:Int} {v:Value},m[i]?=some (k,v)→mfind m k=some (i,v):=by
 induction m with
 | nil=>intro i k v h;simp at h
 | cons p m ih =>
  obtain ⟨k',v'⟩:=p
  intro i k v h
  simp only [List.map_cons,List.nodup_cons] at hn
  cases i with
  | zero=>simp at h;obtain ⟨rfl,rfl⟩:=h;simp [mfind]
  | succ i =>
   have h:m[i]?=some (k,v):=by simpa using h
   have hk:k≠k':=fun e=>hn.1 (by subst e;exact List.mem_map.2 ⟨(k,v),List.mem_of_getElem? h,rfl⟩)
   simp [mfind,hk,ih hn.2 h]
theorem mset_keys (m:List (Int×Value)) (i:Nat) (v:Value):(mset m i v).map (·.1)=m.map (·.1):=by
 apply List.ext_getElem?
 intro j
 rw [List.getElem?_map,List.getElem?_map,mset,List.getElem?_modify]
 cases m[j]? with
 | none=>simp
 | some p=>by_cases h:i=j <;> simp [h]
theorem mfind_mset {m:List (Int×Value)} (hn:(m.map (·.1)).Nodup) {i:Nat} {k:Int} {u:Value} (hi:m[i]?=some (k,u)) (v:Value) (x:Int):(mfind (mset m i v) x).map (·.2)=if x=k then some v else (mfind m x).map (·.2):=by
 have hn':((mset m i v).map (·.1)).Nodup:=by rw [mset_keys];exact hn
 have hg:∀ j,(mset m i v)[j]?=(if i=j then (m[j]?).map fun p=>(p.1,v) else m[j]?):=by intro j;rw [mset,List.getElem?_modify];by_cases h:i=j <;> simp [h]
 by_cases hx:x=k
 ·subst hx
  rw [mfind_get hn' (i:=i) (v:=v) (by rw [hg,if_pos rfl,hi];rfl)];simp
 ·rw [if_neg hx]
  cases hf:mfind m x with
  | none =>
   cases hf':mfind (mset m i v) x with
   | none=>rfl
   | some p =>
    have:=mfind_none hf
    rw [← mset_keys m i v] at this
    exact absurd (List.mem_map.2 ⟨(x,p.2),List.mem_of_getElem? (mfind_spec' hf'),rfl⟩) this
  | some p =>
   obtain ⟨j,w⟩:=p
   have hj:=mfind_spec hf
   have hij:i≠j:=fun e=>by subst e;rw [hi] at hj;cases hj;exact hx rfl
   rw [mfind_get hn' (i:=j) (v:=w) (by rw [hg,if_neg hij,hj])]
where mfind_spec' {m:List (Int×Value)} {k:Int} {p:Nat×Value} (h:mfind m k=some p):m[p.1]?=some (k,p.2):=mfind_spec (by rw [h])
theorem mfind_push (m:List (Int×Value)) (k:Int) (v:Value) (x:Int) (hk:mfind m k=none):(mfind (m++[(k,v)]) x).map (·.2)=if x=k then some v else (mfind m x).map (·.2):=by
 induction m with
 | nil=>by_cases h:x=k <;> simp [mfind,h]
 | cons p m ih =>
  obtain ⟨k',v'⟩:=p
  unfold mfind at hk
  split at hk
  ·cases hk
  ·rename_i hkk
   simp only [Option.map_eq_none_iff] at hk
   simp only [List.cons_append,mfind]
   by_cases h1:x=k'
   ·have:x≠k:=fun e=>hkk (by rw [← e,h1])
    simp [h1,Ne.symm hkk]
   ·have:=ih hk
    simp only [if_neg h1,Option.map_map] at *
    have e:((fun x=>x.2) ∘ fun (p:Nat×Value)=>(p.1+1,p.2))=fun x=>x.2:=rfl
    rw [e];exact this
theorem mput_find {m:List (Int×Value)} (hn:(m.map (·.1)).Nodup) (k:Int) (v:Value) (x:Int):(mfind (mput m k v) x).map (·.2)=if x=k then some v else (mfind m x).map (·.2):=by
 unfold mput
 cases hf:mfind m k with
 | none=>exact mfind_push m k v x hf
 | some p=>exact mfind_mset hn (mfind_spec hf) v x
theorem mput_nodup {m:List (Int×Value)} (hn:(m.map (·.1)).Nodup) (k:Int) (v:Value):((mput m k v).map (·.1)).Nodup:=by
 unfold mput
 cases hf:mfind m k with
 | none =>
  simp only [List.map_append,List.map_cons,List.map_nil]
  rw [List.nodup_append]
  exact ⟨hn,by simp,fun a ha b hb=>by simp at hb;subst hb;exact fun e=>mfind_none hf (e▸ha)⟩
 | some p=>rw [mset_keys];exact hn
/-! ### Maps as functions -/
section
variable {h h' : Heap} {r : Nat} {f : Int → Option Value}
theorem MapF.lt (w:MapF h r f):r<h.size:=by obtain ⟨m,hm,_⟩:=w;exact hm.lt
theorem MapF.fr {lo hi:Nat} (w:MapF h r f) (x:Fr lo hi h h') (hb:r<lo∨hi≤r):MapF h' r f:=by obtain ⟨m,hm,h1⟩:=w;exact ⟨m,hm.fr x hb,h1⟩
theorem NewO.mapF (n:NewO h h' r (mapObj [])):MapF h' r fun _=>none:=⟨[],n.get,by simp,fun k=>rfl⟩
theorem MapF.look (w:MapF h r f) {z:Value} {n:Int} {K:Value→Bool→Prop} (hk:K ((f n).getD z) (f n).isSome):∃ m,MapAt h r m∧K (mget z m n) (mhas m n):=by
 obtain ⟨m,hm,_,h1⟩:=w
 refine ⟨m,hm,?_⟩
 rw [← h1] at hk
 unfold mget mhas
 cases hf:mfind m n with
 | none=>rw [hf] at hk;exact hk
 | some p=>rw [hf] at hk;exact hk
theorem MapF.look1 (w:MapF h r f) {z:Value} {n:Int} {K:List (Int×Value)→Prop} {d:Dep K} (hk:∀ m,mget z m n=(f n).getD z→mhas m n=(f n).isSome→K m):withMap h r K d:=by
 obtain ⟨m,hm,_,h1⟩:=w
 refine ⟨m,hm,hk m ?_ ?_⟩ <;> rw [← h1] <;> first | (unfold mget;cases mfind m n <;> rfl) | (unfold mhas;cases mfind m n <;> rfl)
theorem MapF.set (w:MapF h r f) {n:Int} {v:Value} {K:Heap→Prop} {d:(m:List (Int×Value))→Dep K} {d2:Dep fun m=>stoO h r (mapObj (mput m n v)) K (d m)} (hk:∀ h',MapF h' r (fun x=>if x=n then some v else f x)→Fr r (r+1) h h'→h'.size=h.size→K h') :
  withMap h r (fun m=>stoO h r (mapObj (mput m n v)) K (d m)) d2:=by
 obtain ⟨m,hm,hn,h1⟩:=w
 exact ⟨m,hm,fun h' s=>hk h' ⟨_,s.get hm,mput_nodup hn _ _,fun x=>by rw [mput_find hn,h1]⟩ s.fr s.size⟩
end
theorem length_putAt (vs:List Value):∀ (l:List Value) (o:Nat),(putAt l o vs).length=l.length:=by
 induction vs with
 | nil=>intros;rfl
 | cons v vs ih=>intro l o;simp [putAt,ih]
theorem putAt_one (l:List Value) (o:Nat) (v:Value):putAt l o [v]=l.set o v:=rfl
theorem putAt_mid (vs:List Value):∀ (a m r:List Value),m.length=vs.length→putAt (a++m++r) a.length vs=a++vs++r:=by
 induction vs with
 | nil=>intro a m r hm;simp at hm;simp [hm,putAt]
 | cons v vs ih =>
  intro a m r hm
  cases m with
  | nil=>simp at hm
  | cons x m =>
   simp only [putAt]
   have:=ih (a++[v]) m r (by simpa using hm)
   simp only [List.length_append,List.length_singleton] at this
   rw [show (a++x :: m++r).set a.length v=a++[v]++m++r from by simp [List.set_append]]
   rw [this];simp
theorem getElem?_putAt (vs:List Value):∀ (l:List Value) (o k:Nat),o+vs.length≤l.length→(putAt l o vs)[k]?=if o≤k∧k<o+vs.length then vs[k - o]? else l[k]?:=by
 induction vs with
 | nil=>intro l o k _;simp only [putAt,List.length_nil];rw [if_neg (by omega)]
 | cons v vs ih =>
  intro l o k hl
  simp only [List.length_cons] at hl
  simp only [putAt]
  rw [ih _ _ _ (by simp;omega)]
  simp only [List.length_cons]
  by_cases h1:o+1≤k∧k<o+1+vs.length
  ·rw [if_pos h1,if_pos (by omega),show k - o=(k - (o+1))+1 from by omega];rfl
  ·rw [if_neg h1]
   by_cases h2:k=o
   ·subst h2;rw [if_pos (by omega),List.getElem?_set_self (by omega)];simp
   ·rw [if_neg (by omega),List.getElem?_set_ne (fun h=>h2 h.symm)]
theorem zeros_one (z:Value):∀ n,zeros [z] n=List.replicate n z
 | 0=>rfl
 | n+1=>by simp [zeros,zeros_one z n,List.replicate_succ]
theorem length_zeros (z:List Value):∀ n,(zeros z n).length=n * z.length
 | 0=>by simp [zeros]
 | n+1=>by simp [zeros,length_zeros z n,Nat.succ_mul];omega
def bl:Value→Nat
 | .slice (some a) _ _=>a.block
 | _=>0
def bh:Value→Nat
 | .slice (some a) _ _=>a.block+1
 | _=>0
def Holder (s:Nat) (h:Heap) (v:Value) (n:Nat) (xs:List Value) (lo:Nat):Prop:=
 xs.length=n * s∧((v=.slice none 0 0∧n=0)∨∃ b c rest,v=.slice (some ⟨b,0,none⟩) n c∧Rw h b (xs++rest)∧rest.length+n * s=c * s∧lo≤b)
theorem Holder.none (s:Nat) (h:Heap) (lo:Nat):Holder s h (.slice none 0 0) 0 [] lo:=⟨by simp,.inl ⟨rfl,rfl⟩⟩
theorem Holder.fr {s:Nat} {h h':Heap} {v:Value} {n:Nat} {xs:List Value} {lo l r:Nat} (w:Holder s h v n xs lo) (f:Fr l r h h') (hb:bh v≤l∨r≤bl v∨r≤l):Holder s h' v n xs lo:=by
 obtain ⟨hl,h1 | ⟨b,c,rest,rfl,h2,h3,h4⟩⟩:=w
 ·exact ⟨hl,.inl h1⟩
 ·exact ⟨hl,.inr ⟨b,c,rest,rfl,h2.fr f (by simp only [bl,bh] at hb;omega),h3,h4⟩⟩
theorem Holder.at_ {s:Nat} {h:Heap} {v:Value} {n:Nat} {xs:List Value} {lo:Nat} (w:Holder s h v n xs lo):(bl v=0∧bh v=0)∨(lo≤bl v∧bh v=bl v+1∧bl v<h.size):=by
 obtain ⟨hl,⟨rfl,_⟩ | ⟨b,c,rest,rfl,h2,h3,h4⟩⟩:=w
 ·exact .inl ⟨rfl,rfl⟩
 ·exact .inr ⟨h4,rfl,h2.lt⟩
theorem Holder.is {s:Nat} {h:Heap} {v:Value} {n:Nat} {xs:List Value} {lo:Nat} (w:Holder s h v n xs lo):∃ a c,v=.slice a n c:=by
 obtain ⟨hl,⟨rfl,rfl⟩ | ⟨b,c,rest,rfl,_⟩⟩:=w
 ·exact ⟨_,_,rfl⟩
 ·exact ⟨_,_,rfl⟩
theorem Holder.lower {s:Nat} {h:Heap} {v:Value} {n:Nat} {xs:List Value} {lo lo':Nat} (w:Holder s h v n xs lo) (hl:lo'≤lo):Holder s h v n xs lo':=by
 obtain ⟨hx,h1 | ⟨b,c,rest,h1,h2,h3,h4⟩⟩:=w
 ·exact ⟨hx,.inl h1⟩
 ·exact ⟨hx,.inr ⟨b,c,rest,h1,h2,h3,by omega⟩⟩
theorem Holder.append {s bytes:Nat} {zero:List Value} {h:Heap} {a:Option Addr} {n c:Nat} {xs new:List Value} {m lo:Nat} {K:Value→Heap→Prop} {d:Dep K}
  (w:Holder s h (.slice a n c) n xs lo) (hs:0<s) (hz:zero.length=s) (hlo:lo≤h.size) (hm:new.length=m * s) (hbig:(n+m) * 2 * bytes≤281474976710656)
  (hK:∀ v' h',Holder s h' v' (n+m) (xs++new) lo→Fr (bl (.slice a n c)) (bh (.slice a n c)) h h'→bl v'=bl (.slice a n c)∧h'.size=h.size∨bl v'=h.size∧h'.size=h.size+1∨bh v'=0∧h'=h→K v' h') :
  appB s bytes zero h a n c new m K d:=by
 have hlen:=w.1
 refine ⟨fun hfit=>?_,fun hfit=>⟨hbig,?_⟩⟩
 ·obtain ⟨_,⟨h1,rfl⟩ | ⟨b,c',rest,h1,h2,h3,h4⟩⟩:=w
  ·cases h1
   have hm0:m=0:=by omega
   subst hm0
   refine ⟨rfl,hK _ _ ⟨by simp at hm hlen;simp [hm,hlen],.inl ⟨rfl,rfl⟩⟩ (.refl _ _ _) (.inr (.inr ⟨rfl,rfl⟩))⟩
  ·cases h1
   simp only [Nat.zero_add]
   have hms:m * s≤rest.length:=by
    have:=Nat.mul_le_mul_right s hfit
    rw [Nat.add_mul] at this;omega
   refine ⟨h2.wr (by simp [hlen];omega),fun h' st=>?_⟩
   refine hK _ _ ⟨by simp [hlen,hm,Nat.add_mul],.inr ⟨b,_,rest.drop (m * s),rfl,?_,by simp;rw [Nat.add_mul];omega,h4⟩⟩ st.fr (.inl ⟨rfl,st.size⟩)
   have:=st.row h2
   rw [← hlen,← List.take_append_drop (m * s) rest,← List.append_assoc,putAt_mid _ _ _ _ (by simp [hm];omega)] at this
   simpa using this
 ·have hold:∃ old:List Value,old=xs∧(old=[]∧a=Option.none∧n=0∨∃ b o,a=some ⟨b,o,Option.none⟩∧old.length=n * s∧∀ j v,old[j]?=some v→hcell h b (o+j)=some v):=by
   refine ⟨xs,rfl,?_⟩
   obtain ⟨_,⟨h1,rfl⟩ | ⟨b,c',rest,h1,h2,h3,h4⟩⟩:=w
   ·cases h1;exact .inl ⟨by simpa using hlen,rfl,rfl⟩
   ·cases h1
    refine .inr ⟨b,0,rfl,hlen,fun j v hj=>?_⟩
    rw [h2.cell,Nat.zero_add,List.getElem?_append_left (List.getElem?_eq_some_iff.1 hj).1,hj]
  obtain ⟨old,rfl,hold⟩:=hold
  refine ⟨old,hold,fun c' b' h' hc' nw=>?_⟩
  refine hK _ _ ⟨by simp [hlen,hm,Nat.add_mul],.inr ⟨b',c',zeros zero (c' - (n+m)),rfl,nw.row,?_,by rw [nw.at_];exact hlo⟩⟩ nw.fr (.inr (.inl ⟨nw.at_,nw.size⟩))
  rw [length_zeros,hz,← Nat.add_mul];congr 1;omega
theorem wrap64 {n:Int} (h1 : -9223372036854775808≤n) (h2:n≤9223372036854775807):IntKind.i64.wrap n=n:=by
 rw [IntKind.wrap_i64];omega
theorem wrapu64 {n:Int} (h1:0≤n) (h2:n≤18446744073709551615):IntKind.u64.wrap n=n:=by
 rw [IntKind.wrap_u64];omega
end Go.Vc
namespace Go.Vc
open Go
def Rd (s:Nat) (h:Heap) (v:Value) (n:Nat) (xs:List Value):Prop:=
 xs.length=n * s∧∃ a c,v=.slice a n c∧(n=0∨∃ b o,a=some ⟨b,o,none⟩∧∀ j x,xs[j]?=some x→hcell h b (o+j)=some x)
theorem Holder.rd {s:Nat} {h:Heap} {v:Value} {n:Nat} {xs:List Value} {lo:Nat} (w:Holder s h v n xs lo):Rd s h v n xs:=by
 obtain ⟨hl,⟨rfl,rfl⟩ | ⟨b,c,rest,rfl,h2,h3,h4⟩⟩:=w
 ·exact ⟨hl,_,_,rfl,.inl rfl⟩
 ·refine ⟨hl,_,_,rfl,.inr ⟨b,0,rfl,fun j x hj=>?_⟩⟩
  rw [h2.cell,Nat.zero_add,List.getElem?_append_left (List.getElem?_eq_some_iff.1 hj).1,hj]
theorem Rd.is {s:Nat} {h:Heap} {v:Value} {n:Nat} {xs:List Value} (w:Rd s h v n xs):∃ a c,v=.slice a n c:=by
 obtain ⟨_,a,c,h1,_⟩:=w;exact ⟨a,c,h1⟩
theorem Rd.fr {s:Nat} {h h':Heap} {v:Value} {n:Nat} {xs:List Value} (w:Rd s h v n xs) (f:Fr 0 0 h h'):Rd s h' v n xs:=by
 obtain ⟨hl,a,c,h1,h2⟩:=w
 refine ⟨hl,a,c,h1,h2.imp_right ?_⟩
 rintro ⟨b,o,h3,h4⟩
 exact ⟨b,o,h3,fun j x hj=>f.keep (h4 j x hj) (by omega)⟩
theorem Rd.idx {s:Nat} {h:Heap} {a:Option Addr} {n c:Nat} {xs:List Value} {K:Nat→Nat→Prop} {d:Dep K} (w:Rd s h (.slice a n c) n xs) (hn:0<n)
  (hk:∀ b o,(∀ j x,xs[j]?=some x→hcell h b (o+j)=some x)→K b o):withAd a K d:=by
 obtain ⟨hl,a',c',h1,h2⟩:=w
 cases h1
 rcases h2 with h2 | ⟨b,o,rfl,h4⟩
 ·omega
 ·exact hk b o h4
def pairsV (l:List (Int×Int)):List Value:=l.flatMap fun p=>[.int .i64 p.1,.int .i64 p.2]
@[simp] theorem length_pairsV (l:List (Int×Int)):(pairsV l).length=l.length * 2:=by
 induction l with
 | nil=>rfl
 | cons p l ih=>simp only [pairsV,List.flatMap_cons,List.length_append,List.length_cons,List.length_nil] at *;omega
theorem pairsV_cons (p:Int×Int) (l:List (Int×Int)):pairsV (p :: l)=.int .i64 p.1 :: .int .i64 p.2 :: pairsV l:=rfl
theorem pairsV_append (l m:List (Int×Int)):pairsV (l++m)=pairsV l++pairsV m:=by simp [pairsV]
theorem pairsV_get:∀ (l:List (Int×Int)) (i:Nat) (p:Int×Int),l[i]?=some p→(pairsV l)[i * 2]?=some (.int .i64 p.1)∧(pairsV l)[i * 2+1]?=some (.int .i64 p.2)
 | [],i,p,h=>by simp at h
 | q :: l,0,p,h=>by simp at h;subst h;simp [pairsV_cons]
 | q :: l,i+1,p,h=>by
  have:=pairsV_get l i p (by simpa using h)
  rw [pairsV_cons,show (i+1) * 2=i * 2+2 from by omega]
  simpa using this
theorem Rd.pair {h:Heap} {a:Option Addr} {c:Nat} {l:List (Int×Int)} {K:Nat→Nat→Prop} {d:Dep K} (w:Rd 2 h (.slice a l.length c) l.length (pairsV l)) {i:Nat} {p:Int×Int} (hp:l[i]?=some p)
  (hk:∀ b o,hcell h b (o+i * 2)=some (.int .i64 p.1)→hcell h b (o+i * 2+1)=some (.int .i64 p.2)→K b o):withAd a K d:=
 w.idx (by have:=(List.getElem?_eq_some_iff.1 hp).1;omega) fun b o hc=>hk b o (hc _ _ (pairsV_get l i p hp).1) (by rw [Nat.add_assoc];exact hc _ _ (pairsV_get l i p hp).2)
def intsV (l:List Int):List Value:=l.map (.int .i64)
@[simp] theorem length_intsV (l:List Int):(intsV l).length=l.length:=by simp [intsV]
theorem intsV_get {l:List Int} {i:Nat} {p:Int} (h:l[i]?=some p):(intsV l)[i]?=some (.int .i64 p):=by simp [intsV,h]
theorem intsV_append (l m:List Int):intsV (l++m)=intsV l++intsV m:=by simp [intsV]
end Go.Vc
namespace Go.Vc
open Go
theorem Rw.rd {h:Heap} {b s n c:Nat} {xs:List Value} (r:Rw h b xs) (hl:xs.length=n * s):Rd s h (.slice (some ⟨b,0,none⟩) n c) n xs:=
 ⟨hl,_,_,rfl,.inr ⟨b,0,rfl,fun j x hj=>by rw [r.cell,Nat.zero_add,hj]⟩⟩
def natsV (l:List Nat):List Value:=l.map fun (p:Nat)=>Value.int .i64 (p:Int)
@[simp] theorem length_natsV (l:List Nat):(natsV l).length=l.length:=by simp [natsV]
theorem natsV_get {l:List Nat} {i p:Nat} (h:l[i]?=some p):(natsV l)[i]?=some (.int .i64 (p:Int)):=by simp [natsV,h]
theorem natsV_append (l m:List Nat):natsV (l++m)=natsV l++natsV m:=by simp [natsV]
def lf (f:Nat→Bool) (n q:Nat):Option Nat:=(List.range' q (n - q)).find? f
def nx (o:Option Nat):Int:=match o with | none=>-1 | some x=>x
theorem lf_end (f:Nat→Bool) {n q:Nat} (h:n≤q):lf f n q=none:=by simp [lf,Nat.sub_eq_zero_of_le h]
theorem lf_step (f:Nat→Bool) {n q:Nat} (h:q<n):lf f n q=if f q=true then some q else lf f n (q+1):=by
 unfold lf
 rw [show n - q=(n - (q+1))+1 from by omega,List.range'_succ,List.find?_cons]
 cases f q <;> simp
theorem lf_some {f:Nat→Bool} {n q x:Nat} (h:lf f n q=some x):q≤x∧x<n∧f x=true:=by
 unfold lf at h
 have h1:=List.mem_of_find?_eq_some h
 have h2:=List.find?_some h
 rw [List.mem_range'_1] at h1
 exact ⟨by omega,by omega,h2⟩
end Go.Vc
namespace Go.Vc
theorem nx_some (x:Nat):nx (some x)=(x:Int):=(rfl)
theorem nx_none:nx none = -1:=(rfl)
theorem New.f0 {h h' : Heap} {b : Nat} {c : List Value} (n : New h h' b c) : Fr 0 0 h h' := n.fr
theorem NewO.f0 {h h' : Heap} {b : Nat} {o : Obj} (n : NewO h h' b o) : Fr 0 0 h h' := n.fr
theorem Rw.F {lo hi : Nat} {h h' : Heap} {b : Nat} {c : List Value} (r : Rw h b c) (a : Fr lo hi h h') (hc : b < lo ∨ hi ≤ b := by omega) : Rw h' b c := r.fr a hc
theorem New.az {h h' : Heap} {b : Nat} {c : List Value} (n : New h h' b c) : b = h.size ∧ h'.size = h.size + 1 := ⟨n.at_, n.size⟩
theorem NewO.az {h h' : Heap} {b : Nat} {o : Obj} (n : NewO h h' b o) : b = h.size ∧ h'.size = h.size + 1 := ⟨n.at_, n.size⟩
theorem Rw.W {h : Heap} {b : Nat} {c : List Value} (r : Rw h b c) {o n : Nat} (hn : o + n ≤ c.length := by first | (simp; done) | (simp; omega)) : Wr h b o n := r.wr hn
theorem zs0 {α : Type _} (a b : α) (l : List α) : (a :: l).set 0 b = b :: l := rfl
theorem zs1 {α : Type _} (a b : α) (l : List α) (n : Nat) : (a :: l).set (n + 1) b = a :: l.set n b := rfl
theorem Fr.F {lo hi : Nat} {h0 h h' : Heap} (p : Fr 0 0 h0 h) (a : Fr lo hi h h') (hl : h0.size ≤ lo ∨ hi ≤ lo := by omega) : Fr 0 0 h0 h' := p.fresh a hl
end Go.Vc
/-
  Words of 64 bits: plain facts.
-/
namespace Go.Vc
open Go
theorem ofInt64 {a:Nat} (ha:a<2 ^ 64):(BitVec.ofInt IntKind.u64.bits (a:Int)).toNat=a:=by
 show (BitVec.ofInt 64 (a:Int)).toNat=a
 rw [BitVec.toNat_ofInt]
 omega
theorem and64 {a b:Nat} (ha:a<2 ^ 64) (hb:b<2 ^ 64):IntKind.u64.wrap ((BitVec.ofInt IntKind.u64.bits (a:Int) &&& BitVec.ofInt IntKind.u64.bits (b:Int)).toNat:Int)=((a &&& b:Nat):Int):=by
 rw [BitVec.toNat_and,ofInt64 ha,ofInt64 hb]
 have:a &&& b≤a:=Nat.and_le_left
 exact wrapu64 (by omega) (by omega)
theorem or64 {a b:Nat} (ha:a<2 ^ 64) (hb:b<2 ^ 64):IntKind.u64.wrap ((BitVec.ofInt IntKind.u64.bits (a:Int) ||| BitVec.ofInt IntKind.u64.bits (b:Int)).toNat:Int)=((a ||| b:Nat):Int):=by
 rw [BitVec.toNat_or,ofInt64 ha,ofInt64 hb]
 have:=Nat.or_lt_two_pow ha hb
 exact wrapu64 (by omega) (by omega)
theorem xor64 {a b:Nat} (ha:a<2 ^ 64) (hb:b<2 ^ 64):IntKind.u64.wrap ((BitVec.ofInt IntKind.u64.bits (a:Int) ^^^ BitVec.ofInt IntKind.u64.bits (b:Int)).toNat:Int)=((a ^^^ b:Nat):Int):=by
 rw [BitVec.toNat_xor,ofInt64 ha,ofInt64 hb]
 have:=Nat.xor_lt_two_pow ha hb
 exact wrapu64 (by omega) (by omega)
theorem shr64 (a k:Nat) (hk:k<64):(a:Int).fdiv (2 ^ min k IntKind.u64.bits)=((a / 2 ^ k:Nat):Int):=by
 rw [show min k IntKind.u64.bits=k from by show min k 64=k;omega,Int.fdiv_eq_ediv_of_nonneg _ (by exact Int.le_of_lt (Int.pow_pos (by decide)))]
 simp
theorem shl64 (k:Nat) (hk:k<64):IntKind.u64.wrap (1 * 2 ^ min k IntKind.u64.bits)=((2 ^ k:Nat):Int):=by
 rw [show min k IntKind.u64.bits=k from by show min k 64=k;omega,Int.one_mul,show (2:Int) ^ k=((2 ^ k:Nat):Int) from by simp]
 have:(2:Nat) ^ k<2 ^ 64:=Nat.pow_lt_pow_right (by decide) hk
 generalize (2:Nat) ^ k=x at this
 exact wrapu64 (by omega) (by omega)
theorem bit_has {a k:Nat} (ha:a<2 ^ 64) (hk:k<64):(((a / 2 ^ k &&& 1:Nat):Int)==1)=a.testBit k:=by
 rw [Nat.testBit_eq_decide_div_mod_eq,Nat.and_one_is_mod,Bool.eq_iff_iff]
 simp only [beq_iff_eq,decide_eq_true_eq]
 omega
theorem tdiv64 (p:Nat):(p:Int).tdiv 64=((p / 64:Nat):Int):=by
 rw [Int.tdiv_eq_ediv_of_nonneg (by omega)];omega
theorem tmod64 (p:Nat):(p:Int).tmod 64=((p % 64:Nat):Int):=by
 rw [Int.tmod_eq_emod_of_nonneg (by omega)];omega
def wrow (w:Nat) (W:Nat→Nat):List Value:=(List.range w).map fun (j:Nat)=>Value.int .u64 (W j:Int)
@[simp] theorem length_wrow (w:Nat) (W:Nat→Nat):(wrow w W).length=w:=by simp [wrow]
theorem wrow_get {w:Nat} {W:Nat→Nat} {j:Nat} (hj:j<w):(wrow w W)[j]?=some (.int .u64 (W j:Int)):=by simp [wrow,hj]
theorem wrow_set {w:Nat} {W:Nat→Nat} {j x:Nat}:(wrow w W).set j (.int .u64 (x:Int))=wrow w fun k=>if k=j then x else W k:=by
 apply List.ext_getElem?;intro k
 by_cases hk:k<w
 ·rw [wrow_get hk,List.getElem?_set]
  by_cases hj:j=k
  ·subst hj;simp [hk]
  ·rw [if_neg hj,wrow_get hk,if_neg (fun h=>hj h.symm)]
 ·rw [List.getElem?_eq_none (by simp;omega),List.getElem?_eq_none (by simp;omega)]
theorem wrow_zero (w:Nat):List.replicate w (Value.int .u64 0)=wrow w fun _=>0:=by
 apply List.ext_getElem?;intro k
 by_cases hk:k<w
 ·rw [wrow_get hk];simp [hk]
 ·simp [wrow,hk]
def nw (n:Nat):Nat:=(n+63) / 64
def Bits (n:Nat) (W:Nat→Nat) (f:Nat→Bool):Prop:=∀ j,W j<2 ^ 64∧∀ k,k<64→(W j).testBit k=(decide (64 * j+k<n)&&f (64 * j+k))
theorem Bits.get {n:Nat} {W:Nat→Nat} {f:Nat→Bool} (b:Bits n W f) {p:Nat} (hp:p<n):(W (p / 64)).testBit (p % 64)=f p:=by
 rw [(b _).2 _ (by omega),show 64 * (p / 64)+p % 64=p from by omega];simp [hp]
theorem Bits.zero (n:Nat):Bits n (fun _=>0) fun _=>false:=fun j=>⟨Nat.two_pow_pos 64,fun k _=>by simp⟩
theorem Bits.flip {n:Nat} {W:Nat→Nat} {f:Nat→Bool} (b:Bits n W f) {p:Nat} (hp:p<n):Bits n (fun j=>if j=p / 64 then W (p / 64) ^^^ 2 ^ (p % 64) else W j) fun q=>if q=p then !f p else f q:=by
 intro j
 by_cases hj:j=p / 64
 ·subst hj
  simp only [if_true]
  refine ⟨Nat.xor_lt_two_pow (b _).1 (Nat.pow_lt_pow_right (by decide) (by omega)),fun k hk=>?_⟩
  rw [Nat.testBit_xor,(b _).2 k hk,Nat.testBit_two_pow]
  by_cases hkp:p % 64=k
  ·subst hkp
   rw [show 64 * (p / 64)+p % 64=p from by omega];simp [hp]
  ·rw [if_neg (show ¬ 64 * (p / 64)+k=p by omega)];simp [hkp]
 ·simp only [if_neg hj]
  refine ⟨(b j).1,fun k hk=>?_⟩
  rw [(b _).2 k hk,if_neg (show ¬ 64 * j+k=p by omega)]
theorem Bits.set {n:Nat} {W:Nat→Nat} {f:Nat→Bool} (b:Bits n W f) {p:Nat} (hp:p<n):Bits n (fun j=>if j=p / 64 then W (p / 64) ||| 2 ^ (p % 64) else W j) fun q=>if q=p then true else f q:=by
 intro j
 by_cases hj:j=p / 64
 ·subst hj
  simp only [if_true]
  refine ⟨Nat.or_lt_two_pow (b _).1 (Nat.pow_lt_pow_right (by decide) (by omega)),fun k hk=>?_⟩
  rw [Nat.testBit_or,(b _).2 k hk,Nat.testBit_two_pow]
  by_cases hkp:p % 64=k
  ·subst hkp
   rw [show 64 * (p / 64)+p % 64=p from by omega];simp [hp]
  ·rw [if_neg (show ¬ 64 * (p / 64)+k=p by omega)];simp [hkp]
 ·simp only [if_neg hj]
  refine ⟨(b j).1,fun k hk=>?_⟩
  rw [(b _).2 k hk,if_neg (show ¬ 64 * j+k=p by omega)]
structure PTab (h:Heap) (lo hi pb rb n:Nat) (R:Nat→Nat) (W:Nat→Nat→Nat) (M:Nat→Nat→Bool):Prop where
 ptr:Rw h pb [.int .i64 n,.slice (some ⟨rb,0,none⟩) n n]
 rows:Rw h rb ((List.range n).map fun (i:Nat)=>Value.slice (some ⟨R i,0,none⟩) (nw n) (nw n))
 row:∀ i,i<n→Rw h (R i) (wrow (nw n) (W i))∧lo≤R i∧R i<hi∧R i≠pb∧R i≠rb∧Bits n (W i) (M i)
 inj:∀ i j,i<n→j<n→R i=R j→i=j
 at_:lo≤pb∧pb<hi∧lo≤rb∧rb<hi∧pb≠rb
def ProgAt (h:Heap) (lo hi:Nat) (p:Value) (n:Nat) (M:Nat→Nat→Bool):Prop:=
 n≤256∧∃ pb rb R W,p=.pointer (some ⟨pb,0,none⟩)∧PTab h lo hi pb rb n R W M
theorem PTab.fr {h h':Heap} {lo hi pb rb n:Nat} {R:Nat→Nat} {W:Nat→Nat→Nat} {M:Nat→Nat→Bool} {l r:Nat} (t:PTab h lo hi pb rb n R W M) (f:Fr l r h h') (hd:hi≤l∨r≤lo∨r≤l):PTab h' lo hi pb rb n R W M:=by
 have a:=t.at_
 refine ⟨t.ptr.fr f (by omega),t.rows.fr f (by omega),fun i hi=>?_,t.inj,a⟩
 obtain ⟨h1,h2,h3,h4⟩:=t.row i hi
 exact ⟨h1.fr f (by omega),h2,h3,h4⟩
theorem ProgAt.fr {h h':Heap} {lo hi l r:Nat} {p:Value} {n:Nat} {M:Nat→Nat→Bool} (t:ProgAt h lo hi p n M) (f:Fr l r h h') (hd:hi≤l∨r≤lo∨r≤l):ProgAt h' lo hi p n M:=by
 obtain ⟨hn,pb,rb,R,W,hv,ht⟩:=t;exact ⟨hn,pb,rb,R,W,hv,ht.fr f hd⟩
theorem ProgAt.mono {h:Heap} {lo hi lo' hi':Nat} {p:Value} {n:Nat} {M:Nat→Nat→Bool} (t:ProgAt h lo hi p n M) (h1:lo'≤lo) (h2:hi≤hi'):ProgAt h lo' hi' p n M:=by
 obtain ⟨hn,pb,rb,R,W,hv,ht⟩:=t
 have a:=ht.at_
 refine ⟨hn,pb,rb,R,W,hv,ht.ptr,ht.rows,fun i hi=>?_,ht.inj,by omega⟩
 obtain ⟨g1,g2,g3,g4⟩:=ht.row i hi
 exact ⟨g1,by omega,by omega,g4⟩
theorem PTab.rowsGet {h:Heap} {lo hi pb rb n:Nat} {R:Nat→Nat} {W:Nat→Nat→Nat} {M:Nat→Nat→Bool} (t:PTab h lo hi pb rb n R W M) {i:Nat} (hi:i<n):hcell h rb i=some (.slice (some ⟨R i,0,none⟩) (nw n) (nw n)):=by
 rw [t.rows.cell];simp [hi]
theorem ProgAt.congr {h:Heap} {lo hi:Nat} {p:Value} {n:Nat} {M M':Nat→Nat→Bool} (t:ProgAt h lo hi p n M) (he:∀ i j,i<n→j<n→M i j=M' i j):ProgAt h lo hi p n M':=by
 obtain ⟨hn,pb,rb,R,W,hv,ht⟩:=t
 refine ⟨hn,pb,rb,R,W,hv,ht.ptr,ht.rows,fun i hi=>?_,ht.inj,ht.at_⟩
 obtain ⟨h1,h2,h3,h4,h5,h6⟩:=ht.row i hi
 refine ⟨h1,h2,h3,h4,h5,fun j=>⟨(h6 j).1,fun k hk=>?_⟩⟩
 rw [(h6 j).2 k hk]
 by_cases hjk:64 * j+k<n
 ·rw [he i _ hi hjk]
 ·simp [hjk]
theorem PTab.upd {h h':Heap} {lo hi pb rb n:Nat} {R:Nat→Nat} {W:Nat→Nat→Nat} {M:Nat→Nat→Bool} (t:PTab h lo hi pb rb n R W M) {x o:Nat} {v:Value} {w:Nat→Nat} {f:Nat→Bool} (hx:x<n) (st:Sto h h' (R x) o [v])
  (hw:(wrow (nw n) (W x)).set o v=wrow (nw n) w) (hb:Bits n w f):PTab h' lo hi pb rb n R (fun i=>if i=x then w else W i) (fun i=>if i=x then f else M i):=by
 obtain ⟨g1,g2,g3,g4,g5,g6⟩:=t.row x hx
 refine ⟨st.rw t.ptr (Ne.symm g4),st.rw t.rows (Ne.symm g5),fun i hi=>?_,t.inj,t.at_⟩
 obtain ⟨h1,h2,h3,h4,h5,h6⟩:=t.row i hi
 by_cases hix:i=x
 ·subst hix
  have:=st.row h1
  rw [putAt_one,hw] at this
  simp only [if_true]
  exact ⟨this,h2,h3,h4,h5,hb⟩
 ·simp only [if_neg hix]
  exact ⟨st.rw h1 (fun he=>hix (t.inj i x hi hx he)),h2,h3,h4,h5,h6⟩
end Go.Vc
/-
  The lowest bit of a word.
-/
namespace Go.Vc
open Go
def Low (x k:Nat):Prop:=x.testBit k=true∧∀ j,j<k→x.testBit j=false
theorem low_exists {x:Nat} (hx:x≠0):∃ k,Low x k:=by
 obtain ⟨i,hi⟩:=Nat.exists_testBit_of_ne_zero hx
 induction i using Nat.strongRecOn with
 | _ i ih =>
  by_cases h:∃ j,j<i∧x.testBit j=true
  ·obtain ⟨j,hj,hb⟩:=h;exact ih j hj hb
  ·exact ⟨i,hi,fun j hj=>by
    cases hb:x.testBit j with
    | false=>rfl
    | true=>exact absurd ⟨j,hj,hb⟩ h⟩
theorem Low.lt {x k w:Nat} (l:Low x k) (hx:x<2 ^ w):k<w:=by
 apply Classical.byContradiction;intro h
 have:=Nat.testBit_lt_two_pow (x:=x) (i:=k) (Nat.lt_of_lt_of_le hx (Nat.pow_le_pow_right (by decide) (by omega)))
 rw [l.1] at this;cases this
theorem Low.split {x k:Nat} (l:Low x k):x=2 ^ (k+1) * (x / 2 ^ (k+1))+2 ^ k:=by
 have:x % 2 ^ (k+1)=2 ^ k:=by
  apply Nat.eq_of_testBit_eq;intro i
  rw [Nat.testBit_mod_two_pow,Nat.testBit_two_pow]
  by_cases h1:i<k
  ·have:k≠i:=by omega
   simp [l.2 i h1,this]
  ·by_cases h2:i=k
   ·subst h2;simp [l.1]
   ·have:¬ i<k+1:=by omega
    simp [this,Ne.symm h2]
 have h:=Nat.div_add_mod x (2 ^ (k+1))
 rw [this] at h;exact h.symm
theorem Low.pred {x k:Nat} (l:Low x k) (i:Nat):(x - 1).testBit i=if i<k then true else if i=k then false else x.testBit i:=by
 have hp:0<2 ^ k:=Nat.two_pow_pos k
 have hs:=l.split
 have hd:2 ^ (k+1)=2 * 2 ^ k:=by rw [Nat.pow_succ,Nat.mul_comm]
 have e:x - 1=2 ^ (k+1) * (x / 2 ^ (k+1))+(2 ^ k - 1):=by omega
 rw [e,Nat.testBit_two_pow_mul_add _ (by omega),Nat.testBit_two_pow_sub_one]
 by_cases h1:i<k
 ·simp [h1];omega
 ·by_cases h2:i=k
  ·subst h2;simp
  ·have h3:¬ i<k+1:=by omega
   rw [if_neg h3,if_neg h1,if_neg h2]
   conv=>rhs;rw [hs]
   rw [Nat.testBit_two_pow_mul_add _ (by omega),if_neg h3]
theorem Low.and_neg {x k:Nat} (l:Low x k) (hx:x<2 ^ 64):x &&& (2 ^ 64 - x)=2 ^ k:=by
 have h0:0<x:=by
  rcases Nat.eq_zero_or_pos x with rfl | h
  ·have:=l.1;simp at this
  ·exact h
 apply Nat.eq_of_testBit_eq;intro i
 rw [Nat.testBit_and,show 2 ^ 64 - x=2 ^ 64 - (x - 1+1) from by omega,Nat.testBit_two_pow_sub_succ (by omega),l.pred,Nat.testBit_two_pow]
 have hk:=l.lt hx
 by_cases h1:i<k
 ·rw [l.2 i h1];simp;omega
 ·by_cases h2:i=k
  ·subst h2;simp [l.1,hk]
  ·simp [h1,h2,Ne.symm h2];exact fun h _=>h
theorem Low.strike {x k:Nat} (l:Low x k) (i:Nat):(x &&& (x - 1)).testBit i=(x.testBit i&&decide (i≠k)):=by
 rw [Nat.testBit_and,l.pred]
 by_cases h1:i<k
 ·rw [l.2 i h1];simp
 ·by_cases h2:i=k
  ·subst h2;simp
  ·simp [h1,h2]
def tab64:List Nat:=[0,1,56,2,57,49,28,3,61,58,42,50,38,29,17,4,62,47,59,36,45,43,51,22,53,39,33,30,24,18,12,5,63,55,48,27,60,41,37,16,46,35,44,21,52,32,23,11,54,26,40,15,34,20,31,10,25,14,19,9,13,8,7,6]
theorem tab64_at:∀ k,k<64→tab64[(2 ^ k * 285870213051353865 % 2 ^ 64) / 2 ^ 58]?=some k:=by decide
def TabAt (h:Heap):Prop:=∀ (i k:Nat),tab64[i]?=some k→hcell h 0 i=some (.int .u8 (k:Int))
theorem TabAt.fr {h h':Heap} {l r:Nat} (t:TabAt h) (f:Fr l r h h') (hd:0<l∨r=0):TabAt h':=fun i k hk=>f.keep (t i k hk) (by omega)
end Go.Vc
namespace Go.Vc
open Go
theorem neg64 (x y:Nat) (hy:x+y=18446744073709551616) (hx:0<x):IntKind.u64.wrap (0 - (x:Int))=(y:Int):=by
 rw [IntKind.wrap_u64];omega
theorem Low.and_neg' {x k y:Nat} (l:Low x k) (hy:x+y=18446744073709551616) (hy0:0<y):x &&& y=2 ^ k:=by
 have h0:0<x:=by
  rcases Nat.eq_zero_or_pos x with rfl | h
  ·have:=l.1;simp at this
  ·exact h
 have:y=2 ^ 64 - x:=by omega
 rw [this];exact l.and_neg (by omega)
theorem mul64 (a b c:Nat) (hc:a * b % 18446744073709551616=c):IntKind.u64.wrap ((a:Int) * (b:Int))=(c:Int):=by
 rw [IntKind.wrap_u64];omega
end Go.Vc
namespace Go.Vc
open Go
def rest (g:Nat→Bool) (N q:Nat):List Nat:=(List.range' q (N - q)).filter g
theorem rest_end {g:Nat→Bool} {N q:Nat} (h:N≤q):rest g N q=[]:=by simp [rest,Nat.sub_eq_zero_of_le h]
theorem rest_step {g:Nat→Bool} {N q:Nat} (h:q<N):rest g N q=if g q=true then q :: rest g N (q+1) else rest g N (q+1):=by
 unfold rest
 rw [show N - q=(N - (q+1))+1 from by omega,List.range'_succ,List.filter_cons]
theorem rest_skip {g:Nat→Bool} {N q:Nat}:∀ (d:Nat),q+d≤N→(∀ j,q≤j→j<q+d→g j=false)→rest g N q=rest g N (q+d)
 | 0,_,_=>rfl
 | d+1,h,hg=>by
  rw [rest_skip d (by omega) fun j h1 h2=>hg j h1 (by omega),rest_step (q:=q+d) (by omega),if_neg (by rw [hg (q+d) (by omega) (by omega)];simp)]
  rfl
theorem rest_congr {g g':Nat→Bool} {N q:Nat} (h:∀ j,q≤j→j<N→g j=g' j):rest g N q=rest g' N q:=by
 unfold rest;apply List.filter_congr;intro j hj;rw [List.mem_range'_1] at hj;exact h j (by omega) (by omega)
def wbit (W:Nat→Nat) (p:Nat):Bool:=(W (p / 64)).testBit (p % 64)
end Go.Vc
namespace Go.Vc
open Go
theorem Ext.rw {B:Nat} {h h':Heap} (x:Ext B h h') {b:Nat} {c:List Value} (r:Rw h b c):Rw h' b c:=by
 obtain ⟨t,r⟩:=r;exact ⟨t,x.old b _ r (.inr rfl)⟩
theorem Ext.cell {B:Nat} {h h':Heap} (x:Ext B h h') {b o:Nat} {v:Value} (hc:hcell h b o=some v):hcell h' b o=some v:=ext_cell x hc
theorem Ext.holder {B:Nat} {h h':Heap} (x:Ext B h h') {s:Nat} {v:Value} {n:Nat} {xs:List Value} {lo:Nat} (w:Holder s h v n xs lo):Holder s h' v n xs lo:=by
 obtain ⟨hl,h1 | ⟨b,c,rest,h1,h2,h3,h4⟩⟩:=w
 ·exact ⟨hl,.inl h1⟩
 ·exact ⟨hl,.inr ⟨b,c,rest,h1,x.rw h2,h3,h4⟩⟩
theorem Ext.rd {B:Nat} {h h':Heap} (x:Ext B h h') {s:Nat} {v:Value} {n:Nat} {xs:List Value} (w:Rd s h v n xs):Rd s h' v n xs:=by
 obtain ⟨hl,a,c,h1,h2⟩:=w
 refine ⟨hl,a,c,h1,h2.imp_right ?_⟩
 rintro ⟨b,o,h3,h4⟩;exact ⟨b,o,h3,fun j y hj=>x.cell (h4 j y hj)⟩
theorem Ext.fr {B:Nat} {h h1 h2:Heap} (x:Ext B h1 h2) (f:Fr 0 0 h h1) (hB:h.size≤B):Fr 0 0 h h2:=by
 refine ⟨Nat.le_trans f.size x.size,fun b hb hc=>?_⟩
 rw [← f.old b hb hc]
 have:b<h1.size:=Nat.lt_of_lt_of_le hb f.size
 rw [x.old b h1[b] (by simp [this]) (.inl (by omega))]
 simp [this]
theorem Ext.tab {B:Nat} {h h':Heap} (x:Ext B h h') (t:TabAt h):TabAt h':=fun i k hk=>x.cell (t i k hk)
theorem Ext.ptab {B:Nat} {h h':Heap} (x:Ext B h h') {lo hi pb rb n:Nat} {R:Nat→Nat} {W:Nat→Nat→Nat} {M:Nat→Nat→Bool} (t:PTab h lo hi pb rb n R W M):PTab h' lo hi pb rb n R W M:=
 ⟨x.rw t.ptr,x.rw t.rows,fun i hi=>by obtain ⟨h1,h2⟩:=t.row i hi;exact ⟨x.rw h1,h2⟩,t.inj,t.at_⟩
theorem Ext.prog {B:Nat} {h h':Heap} (x:Ext B h h') {lo hi:Nat} {p:Value} {n:Nat} {M:Nat→Nat→Bool} (t:ProgAt h lo hi p n M):ProgAt h' lo hi p n M:=by
 obtain ⟨hn,pb,rb,R,W,hv,ht⟩:=t;exact ⟨hn,pb,rb,R,W,hv,x.ptab ht⟩
theorem rest_bits {n:Nat} {W:Nat→Nat} {f:Nat→Bool} (b:Bits n W f):rest (wbit W) (64 * nw n) 0=rest f n 0:=by
 have h1:rest (wbit W) (64 * nw n) 0=rest (fun q=>decide (q<n)&&f q) (64 * nw n) 0:=rest_congr fun j _ _=>by
  unfold wbit;rw [(b _).2 _ (by omega),show 64 * (j / 64)+j % 64=j from by omega]
 rw [h1]
 unfold rest nw
 rw [Nat.sub_zero,Nat.sub_zero,show 64 * ((n+63) / 64)=n+(64 * ((n+63) / 64) - n) from by omega,← List.range'_append_1,List.filter_append]
 have h2:(List.range' (0+n) (64 * ((n+63) / 64) - n)).filter (fun q=>decide (q<n)&&f q)=[]:=by
  apply List.filter_eq_nil_iff.2;intro q hq;rw [List.mem_range'_1] at hq;simp;omega
 rw [h2,List.append_nil]
 apply List.filter_congr;intro q hq;rw [List.mem_range'_1] at hq;simp;omega
def pairsTo (n:Nat) (M:Nat→Nat→Bool) (k:Nat):List (Int×Int):=(List.range k).flatMap fun (a:Nat)=>(rest (M a) n 0).map fun (b:Nat)=>((a:Int),(b:Int))
def pairsOf (n:Nat) (M:Nat→Nat→Bool):List (Int×Int):=pairsTo n M n
theorem pairsTo_succ (n:Nat) (M:Nat→Nat→Bool) (k:Nat):pairsTo n M (k+1)=pairsTo n M k++(rest (M k) n 0).map fun (b:Nat)=>((k:Int),(b:Int)):=by
 simp [pairsTo,List.range_succ]
end Go.Vc
namespace Go.Vc
theorem length_rest_le (g:Nat→Bool) (N q:Nat):(rest g N q).length≤N - q:=by
 unfold rest;refine Nat.le_trans (List.length_filter_le _ _) (by simp)
theorem length_pairsTo_le (n:Nat) (M:Nat→Nat→Bool):∀ k,(pairsTo n M k).length≤k * n
 | 0=>by simp [pairsTo]
 | k+1=>by
  have:=length_pairsTo_le n M k
  have:=length_rest_le (M k) n 0
  rw [pairsTo_succ,List.length_append,List.length_map,Nat.succ_mul];omega
end Go.Vc
namespace Go.Vc
theorem mem_rest {g:Nat→Bool} {N q x:Nat}:x∈rest g N q↔q≤x∧x<N∧g x=true:=by
 unfold rest;rw [List.mem_filter,List.mem_range'_1]
 exact ⟨fun ⟨h,hg⟩=>⟨by omega,by omega,hg⟩,fun ⟨h1,h2,hg⟩=>⟨by omega,hg⟩⟩
theorem mem_pairsOf {n:Nat} {M:Nat→Nat→Bool} {p:Int×Int}:p∈pairsOf n M↔∃ a b:Nat,a<n∧b<n∧M a b=true∧p=((a:Int),(b:Int)):=by
 unfold pairsOf pairsTo
 simp only [List.mem_flatMap,List.mem_range,List.mem_map,mem_rest]
 constructor
 ·rintro ⟨a,ha,b,⟨_,hb,hm⟩,rfl⟩;exact ⟨a,b,ha,hb,hm,rfl⟩
 ·rintro ⟨a,b,ha,hb,hm,rfl⟩;exact ⟨a,ha,b,⟨by omega,hb,hm⟩,rfl⟩
end Go.Vc
namespace Go.Vc
theorem pairsTo_behind (n:Nat) (M:Nat→Nat→Bool) (a:Nat):∀ k,((pairsTo n M k).filter fun p=>p.1==(a:Int)).map (fun p=>p.2.toNat)=if a<k then rest (M a) n 0 else []
 | 0=>by simp [pairsTo]
 | k+1=>by
  rw [pairsTo_succ,List.filter_append,List.map_append,pairsTo_behind n M a k]
  by_cases hk:k=a
  ·subst hk
   have:((rest (M k) n 0).map fun (b:Nat)=>((k:Int),(b:Int))).filter (fun p=>p.1==(k:Int))=(rest (M k) n 0).map fun (b:Nat)=>((k:Int),(b:Int)):=
    List.filter_eq_self.2 fun p hp=>by obtain ⟨b,_,rfl⟩:=List.mem_map.1 hp;simp
   rw [this]
   simp [Function.comp_def]
  ·have:((rest (M k) n 0).map fun (b:Nat)=>((k:Int),(b:Int))).filter (fun p=>p.1==(a:Int))=[]:=
    List.filter_eq_nil_iff.2 fun p hp=>by obtain ⟨b,_,rfl⟩:=List.mem_map.1 hp;simp;omega
   rw [this,List.map_nil,List.append_nil]
   have e:(a<k+1)=(a<k):=by simp;omega
   simp [e]
theorem rest_count (g:Nat→Bool) (n q:Nat) (hq:q<n):(rest g n 0).countP (fun (b:Nat)=>(b:Int)==(q:Int))=(g q).toNat:=by
 have hnd:(rest g n 0).Nodup:=by unfold rest;exact List.Nodup.sublist List.filter_sublist (List.nodup_range')
 have e:(fun b:Nat=>(b:Int)==(q:Int))=fun b=>b==q:=by funext b;rw [Bool.eq_iff_iff];simp;omega
 rw [e]
 show (rest g n 0).count q=_
 rw [hnd.count]
 by_cases hm:q∈rest g n 0
 ·rw [if_pos hm,(mem_rest.1 hm).2.2];rfl
 ·rw [if_neg hm]
  cases hg:g q with
  | false=>rfl
  | true=>exact absurd (mem_rest.2 ⟨by omega,hq,hg⟩) hm
theorem pairsTo_waits (n:Nat) (M:Nat→Nat→Bool) (q:Nat) (hq:q<n):∀ k,(pairsTo n M k).countP (fun p=>p.2==(q:Int))=(List.range k).countP fun a=>M a q
 | 0=>by simp [pairsTo]
 | k+1=>by
  rw [pairsTo_succ,List.countP_append,pairsTo_waits n M q hq k,List.range_succ,List.countP_append,List.countP_map]
  have:=rest_count (M k) n q hq
  simp only [Function.comp_def]
  rw [this,List.countP_singleton]
  cases M k q <;> rfl
end Go.Vc
namespace Go.Vc
open Go
theorem q_nil (xs ys:Array Value) (K:Bool→Prop):eqCells [] xs ys K=K true:=(rfl)
theorem q_cons (o:Nat) (os:List Nat) (xs ys:Array Value) (K:Bool→Prop):eqCells (o :: os) xs ys K=withI xs[o]? fun k n=>withI ys[o]? fun k' m=>Chk (k=k') (eqCells os xs ys fun b=>K ((n==m)&&b)):=(rfl)
theorem n_p0 (q:Option Addr) (K:Bool→Prop):eqNilV false (.pointer none) (.pointer q) K=K q.isNone:=(rfl)
theorem n_p1 (a:Addr) (K:Bool→Prop):eqNilV false (.pointer (some a)) (.pointer none) K=K false:=(rfl)
theorem n_s0 (n c m d:Nat) (q:Option Addr) (K:Bool→Prop):eqNilV true (.slice none n c) (.slice q m d) K=K q.isNone:=(rfl)
theorem n_s1 (a:Addr) (n c m d:Nat) (K:Bool→Prop):eqNilV true (.slice (some a) n c) (.slice none m d) K=K false:=(rfl)
attribute [go_sem ↓] q_nil q_cons n_p0 n_p1 n_s0 n_s1
attribute [go_sem] Option.isNone_none Option.isNone_some
theorem withC_of {h:Heap} {b:Nat}:∀ (xs:List Value) (o:Nat) {K:List Value→Prop},(∀ (j:Nat) x,xs[j]?=some x→hcell h b (o+j)=some x)→K xs→withC h b o xs.length K
 | [],_,_,_,hk=>hk
 | x :: xs,o,K,hc,hk=>by
  show withV (hcell h b o) _
  have h0:=hc 0 x rfl
  rw [Nat.add_zero] at h0
  rw [h0]
  exact withC_of xs (o+1) (K:=fun vs=>K (x :: vs)) (fun j y hj=>by rw [Nat.add_assoc,Nat.add_comm 1 j];exact hc (j+1) y hj) hk
theorem Holder.appendRd {s bytes:Nat} {zero:List Value} {h:Heap} {a a':Option Addr} {n c m c':Nat} {ys xs:List Value} {lo:Nat} {K:Value→Heap→Prop} {d1 d2:Dep K}
  {d5:Dep (appB s bytes zero h a n c [] m K d1)} {d3:(new:List Value)→Dep (appB s bytes zero h a n c new m K d2)}
  {d4:Dep fun b' o'=>withC h b' o' (m * s) fun new=>Chk (new.all Value.oneCell'=true) (appB s bytes zero h a n c new m K d2) (d3 new)} {d6:Dep (withAd a' (fun b' o'=>withC h b' o' (m * s) fun new=>Chk (new.all Value.oneCell'=true) (appB s bytes zero h a n c new m K d2) (d3 new)) d4)}
  (w:Holder s h (.slice a n c) n ys lo) (r:Rd s h (.slice a' m c') m xs) (hs:0<s) (hz:zero.length=s) (hlo:lo≤h.size) (hoc:xs.all Value.oneCell'=true) (hbig:(n+m) * 2 * bytes≤281474976710656)
  (hK:∀ v' h',Holder s h' v' (n+m) (ys++xs) lo→Fr (bl (.slice a n c)) (bh (.slice a n c)) h h'→bl v'=bl (.slice a n c)∧h'.size=h.size∨bl v'=h.size∧h'.size=h.size+1∨bh v'=0∧h'=h→K v' h') :
  If (m=0) (appB s bytes zero h a n c [] m K d1) (withAd a' (fun b' o'=>withC h b' o' (m * s) fun new=>Chk (new.all Value.oneCell'=true) (appB s bytes zero h a n c new m K d2) (d3 new)) d4) d5 d6:=by
 have hl:=r.1
 refine ⟨fun h0=>?_,fun h0=>?_⟩
 ·have:xs=[]:=List.length_eq_zero_iff.1 (by rw [hl,h0,Nat.zero_mul])
  subst this
  exact w.append hs hz hlo (by simp [h0]) hbig hK
 ·refine r.idx (by omega) fun b o hc=>?_
  rw [← hl]
  exact withC_of xs o hc ⟨hoc,w.append hs hz hlo hl hbig hK⟩
theorem oc_ints (l:List Int):(intsV l).all Value.oneCell'=true:=by simp [intsV,Value.oneCell',List.all_eq_true]
theorem oc_pairs:∀ l:List (Int×Int),(pairsV l).all Value.oneCell'=true
 | []=>rfl
 | p :: l=>by rw [pairsV_cons];simp only [List.all_cons,oc_pairs l,Bool.and_true];rfl
end Go.Vc
