/-
  Plain: messages as payloads.
-/
import Derived.Test.YtdnfcckkdnkaiaaGreatU23
set_option linter.unusedVariables false
set_option linter.unusedSimpArgs false
set_option maxHeartbeats 4000000
set_option maxRecDepth 10000
namespace Go.AW
section
variable {α : Type} {R : Cu → α × Cu} {W : Pe → α → Pe} {enc : α → List UInt8} {good ok : α → Prop} {d : α}
theorem trip_nest(h:Trip R enc good)(d:α):Trip (Cu.nest R d) (fun x=>eblob (enc x)) (fun x=>good x∧(enc x).length≤65536) where
 stuck:=fun c hc=>by
  have hb:(c.blob 65536).2=c:=(trip_blob 65536).stuck c hc
  unfold Cu.nest
  rw [hb,if_neg hc]
 text:=fun c=>by
  have hb:(c.blob 65536).2.s=c.s:=(trip_blob 65536).text c
  unfold Cu.nest
  split
  ·exact hb
  ·exact hb
 fore:=fun c x r hx hc ha hd=>by
  have hb:c.blob 65536=_:=(trip_blob 65536).fore c (enc x) r ⟨hx.2,by omega⟩ hc ha hd
  unfold Cu.nest
  rw [hb,if_pos rfl,rdw_fore h hx.1]
  simp only [Cu.fail_zero]
 back:=fun c he=>by
  by_cases h0:(c.blob 65536).2.e=0
  ·unfold Cu.nest at he ⊢
   rw [if_pos h0] at he ⊢
   have h1:(rdw R d (c.blob 65536).1).2=0:=by
    by_cases h2:(rdw R d (c.blob 65536).1).2=0
    ·exact h2
    ·exact absurd he (Cu.fail_e h2)
   obtain ⟨g1,g2⟩:=rdw_back h h1
   obtain ⟨⟨k1,k2⟩,k3,k4⟩:=(trip_blob 65536).back c h0
   rw [h1]
   simp only [Cu.fail_zero]
   rw [←g2]
   exact ⟨⟨g1,k1⟩,k3,k4⟩
  ·unfold Cu.nest at he
   rw [if_neg h0] at he
   exact absurd he h0
 cut:=fun c x r hx hc ha hd hr=>by
  have hb:(c.blob 65536).2.e=2:=(trip_blob 65536).cut c (enc x) r ⟨hx.2,by omega⟩ hc ha hd hr
  unfold Cu.nest
  rw [if_neg (by rw [hb];decide)]
  exact hb
theorem pens_nest(h:Pens W enc ok):Pens (Pe.nest W) (fun x=>eblob (enc x)) (fun x=>ok x∧(enc x).length≤65536) where
 stuck:=fun p x hp=>by
  unfold Pe.nest
  rw [Pe.fail_stuck hp,Pe.blob_stuck hp]
 m:=fun p x=>by
  show (Pe.blob _ _ _).m=p.m
  exact (pens_blob 65536).m (p.fail _) _
 len:=fun p x=>by
  by_cases h0:(wre W x).2=0
  ·obtain ⟨_,g2,_⟩:=wre_yes h h0
   unfold Pe.nest
   rw [h0,Pe.fail_zero,g2]
   exact (pens_blob 65536).len p (enc x)
  ·unfold Pe.nest
   rw [Pe.blob_stuck (Pe.fail_e h0)]
   show p.b.length≤_
   omega
 cap:=fun p x=>(pens_blob 65536).cap (p.fail _) _
 yes:=fun p x hp=>by
  by_cases h0:(wre W x).2=0
  ·obtain ⟨g1,g2,g3⟩:=wre_yes h h0
   unfold Pe.nest at hp ⊢
   rw [h0,Pe.fail_zero,g2] at hp ⊢
   obtain ⟨k1,k2,_⟩:=(pens_blob 65536).yes p (enc x) hp
   exact ⟨k1,k2,g1,g3⟩
  ·unfold Pe.nest at hp
   rw [Pe.blob_stuck (Pe.fail_e h0)] at hp
   exact absurd hp (Pe.fail_e h0)
 fit:=fun p x hp hk hl=>by
  unfold Pe.nest
  rw [wre_fit h hk.1 hk.2,Pe.fail_zero]
  exact (pens_blob 65536).fit p (enc x) hp hk.2 hl
theorem trip_when(h:Trip R enc good)(b:Bool)(d:α):Trip (fun c=>if b=true then R c else (d,c)) (fun x=>if b=true then enc x else []) (fun x=>if b=true then good x else x=d):=by
 cases b with
 | true=>simpa using h
 | false=>
  have h2:Trip (fun c=>(d,c)) (fun _=>[]) (·=d):=trip_pure d
  simpa using h2
end
theorem vput_one_len:(vput 0).length=1:=by rw [vput_small (by decide)];rfl
theorem eold_zero:(eold od0).length≤65536:=by
 show (eblob []++(vput 0++[])).length≤_
 simp only [eblob,List.length_append,List.length_nil,vput_one_len];omega
theorem eobj_zero:(eobj oj0).length≤65536:=by
 show (eblob []++(vput 0++[])).length≤_
 simp only [eblob,List.length_append,List.length_nil,vput_one_len];omega
theorem Trip.encq{α:Type}{R:Cu→α × Cu}{enc enc':α→List UInt8}{good:α→Prop}(h:Trip R enc good)(he:∀ y,good y→enc y=enc' y):Trip R enc' good where
 stuck:=h.stuck
 text:=h.text
 fore:=fun c x r hx hc ha hd=>by rw [←he x hx] at hd ⊢;exact h.fore c x r hx hc ha hd
 back:=fun c hc=>by
  obtain ⟨g1,g2,g3⟩:=h.back c hc
  rw [he _ g1] at g2 g3
  exact ⟨g1,g2,g3⟩
 cut:=fun c x r hx hc ha hd hr=>by rw [←he x hx] at hd;exact h.cut c x r hx hc ha hd hr
theorem trip_kind{α:Type}{R:Cu→α × Cu}{enc:α→List UInt8}{good:α→Prop}(h:Trip R enc good){v k id:Nat}(f:α→Mg)(g:Mg→α)(hgf:∀ x,g (f x)=x)
  (hr:∀ c,Cu.mbody v k id c=(f (R c).1,(R c).2)) (he:∀ x,ebodym v (f x)=enc x) (hf:∀ x,good x→(f x).id=id∧goodm v k (f x)) (hb:∀ m,m.id=id→goodm v k m→f (g m)=m∧good (g m)) :
  Trip (Cu.mbody v k id) (ebodym v) (fun m=>m.id=id∧goodm v k m):=by
 have h1:=Trip.emb h f g hgf
 have h2:Trip (Cu.mbody v k id) (fun y=>enc (g y)) (fun y=>f (g y)=y∧good (g y)):=by
  have:Cu.mbody v k id=fun c=>(f (R c).1,(R c).2):=funext hr
  rw [this];exact h1
 have h3:=Trip.iff h2 (good':=fun m=>m.id=id∧goodm v k m) fun m=>by
  constructor
  ·rintro ⟨g1,g2⟩
   have:=hf _ g2
   rw [g1] at this
   exact this
  ·rintro ⟨g1,g2⟩
   exact hb m g1 g2
 refine Trip.encq h3 fun m hm=>?_
 obtain ⟨g1,g2⟩:=hb m hm.1 hm.2
 rw [←he,g1]
theorem mg0_lens:(eold mg0.old).length≤65536∧(eobj mg0.obj).length≤65536:=⟨eold_zero,eobj_zero⟩
theorem no_mem{α:Type}{p:α→Prop}:∀ x ∈ ([]:List α),p x:=fun x hx=>(List.not_mem_nil hx).elim
theorem trip_mbody{v k:Nat}(hh:has v k=true)(id:Nat):Trip (Cu.mbody v k id) (ebodym v) (fun m=>m.id=id∧goodm v k m):=by
 have b1:Trip (Cu.mbody v 1 id) (ebodym v) (fun m=>m.id=id∧goodm v 1 m):=
  trip_kind trip_okey (fun x=>{ mg0 with kind:=1,id:=id,key:=x }) Mg.key (fun _=>rfl) (fun _=>rfl) (fun _=>rfl)
   (fun x hx=>⟨rfl,rfl,rfl,keychk_zero.2 ⟨by simpa using hx.1.1,by simpa using hx.2⟩,⟨no_mem,no_mem,no_mem,no_mem,no_mem⟩,mg0_lens⟩)
   (fun m h1 h2=>⟨by
    have:=h2.2.1
    unfold Mg.pl at this
    rw [h2.1,h1] at this
    exact this,by
    have:=h2.2.2.1
    unfold Mg.chk at this
    rw [h2.1] at this
    obtain ⟨g1,g2⟩:=keychk_zero.1 this
    exact ⟨⟨g1,by omega⟩,by simpa using g2⟩⟩)
 have plk:∀ {k:Nat}{m:Mg},goodm v k m→m.pl v=m∧m.kind=k∧m.chk v=0:=fun h=>⟨h.2.1,h.1,h.2.2.1⟩
 have hP:∀ {m:Mg}{k:Nat},m.kind=k→m.chk v=0→({ m with kind:=k }:Mg).chk v=0:=fun h1 h2=>by rw [←h1];exact h2
 have b2a:v=1→Trip (Cu.mbody v 2 id) (ebodym v) (fun m=>m.id=id∧goodm v 2 m):=fun hv=>by
  subst hv
  have hw:∀ fd,Trip (fun c=>if fd=true then Cu.nest Cu.old od0 c else (od0,c)) (fun o=>if fd=true then eblob (eold o) else []) (fun o=>if fd=true then gold o∧(eold o).length≤65536 else o=od0):=fun fd=>trip_when (trip_nest trip_old od0) fd od0
  have hs:=Trip.seq trip_flag (S:=fun fd c=>if fd=true then Cu.nest Cu.old od0 c else (od0,c)) (fun fd _=>hw fd) (fun fd c=>(hw fd).stuck c) (fun fd=>(hw fd).text)
  refine trip_kind hs (fun x=>{ mg0 with kind:=2,id:=id,found:=x.1,old:=x.2 }) (fun m=>(m.found,m.old)) (fun _=>rfl) (fun c=>?_) (fun x=>?_) (fun x hx=>?_) (fun m h1 h2=>?_)
  ·simp only [Cu.mbody,if_true];rfl
  ·simp only [ebodym,if_true]
  ·obtain ⟨fd,o⟩:=x
   simp only [true_and] at hx
   cases fd with
   | true=>
    simp only [if_true] at hx
    refine ⟨rfl,rfl,rfl,?_,⟨no_mem,no_mem,hx.1.2,no_mem,no_mem⟩,hx.2,eobj_zero⟩
    exact hx.1.1
   | false=>
    simp only [Bool.false_eq_true,if_false] at hx
    subst hx
    exact ⟨rfl,rfl,rfl,rfl,⟨no_mem,no_mem,no_mem,no_mem,no_mem⟩,eold_zero,eobj_zero⟩
  ·obtain ⟨g1,g2,g3⟩:=plk h2
   have g4:=h2.2.2.2
   unfold Mg.pl at g1
   rw [g2] at g1
   unfold Mg.chk at g3
   rw [g2] at g3
   simp only at g1 g3
   cases hfd:m.found with
   | true=>
    rw [hfd] at g1 g3
    simp only [if_true,and_self,true_and] at g1 g3
    refine ⟨by rw [←h1];exact g1,trivial,?_⟩
    show if true=true then _ else _
    rw [if_pos rfl]
    exact ⟨⟨g3,g4.1.2.2.1⟩,g4.2.1⟩
   | false=>
    rw [hfd] at g1 g3
    simp only [Bool.false_eq_true,false_and,if_false] at g1 g3
    have e1:m.old=od0:=by rw [←g1]
    rw [e1]
    refine ⟨by rw [←h1];exact g1,trivial,?_⟩
    show if false=true then _ else _
    rw [if_neg (by decide)]
 have b2b:v=2→Trip (Cu.mbody v 2 id) (ebodym v) (fun m=>m.id=id∧goodm v 2 m):=fun hv=>by
  subst hv
  have hw:∀ fd,Trip (fun c=>if fd=true then Cu.nest Cu.obj oj0 c else (oj0,c)) (fun o=>if fd=true then eblob (eobj o) else []) (fun o=>if fd=true then gobj o∧(eobj o).length≤65536 else o=oj0):=fun fd=>trip_when (trip_nest trip_obj oj0) fd oj0
  have hs:=Trip.seq trip_flag (S:=fun fd c=>if fd=true then Cu.nest Cu.obj oj0 c else (oj0,c)) (fun fd _=>hw fd) (fun fd c=>(hw fd).stuck c) (fun fd=>(hw fd).text)
  refine trip_kind hs (fun x=>{ mg0 with kind:=2,id:=id,found:=x.1,obj:=x.2 }) (fun m=>(m.found,m.obj)) (fun _=>rfl) (fun c=>?_) (fun x=>?_) (fun x hx=>?_) (fun m h1 h2=>?_)
  ·simp only [Cu.mbody,if_neg n21];rfl
  ·simp only [ebodym,if_neg n21]
  ·obtain ⟨fd,o⟩:=x
   simp only [true_and] at hx
   cases fd with
   | true=>
    simp only [if_true] at hx
    refine ⟨rfl,rfl,rfl,?_,⟨no_mem,hx.1.2,no_mem,no_mem,no_mem⟩,eold_zero,hx.2⟩
    exact hx.1.1
   | false=>
    simp only [Bool.false_eq_true,if_false] at hx
    subst hx
    exact ⟨rfl,rfl,rfl,rfl,⟨no_mem,no_mem,no_mem,no_mem,no_mem⟩,eold_zero,eobj_zero⟩
  ·obtain ⟨g1,g2,g3⟩:=plk h2
   have g4:=h2.2.2.2
   unfold Mg.pl at g1
   rw [g2] at g1
   unfold Mg.chk at g3
   rw [g2] at g3
   simp only at g1 g3
   cases hfd:m.found with
   | true=>
    rw [hfd] at g1 g3
    simp only [if_true,and_self,true_and,if_neg n21] at g1 g3
    refine ⟨by rw [←h1];exact g1,trivial,?_⟩
    show if true=true then _ else _
    rw [if_pos rfl]
    exact ⟨⟨g3,g4.1.2.1⟩,g4.2.2⟩
   | false=>
    rw [hfd] at g1 g3
    simp only [Bool.false_eq_true,false_and,if_false] at g1 g3
    have e1:m.obj=oj0:=by rw [←g1]
    rw [e1]
    refine ⟨by rw [←h1];exact g1,trivial,?_⟩
    show if false=true then _ else _
    rw [if_neg (by decide)]
 have b3:Trip (Cu.mbody v 3 id) (ebodym v) (fun m=>m.id=id∧goodm v 3 m):=by
  have h5:Trip (rseq Cu.flag (fun _ c=>Cu.blob c 32768)) _ _:=Trip.seq trip_flag (fun _ _=>trip_blob 32768) (fun _ c=>(trip_blob 32768).stuck c) (fun _=>(trip_blob 32768).text)
  have h4:Trip (rseq Cu.prs (fun _=>rseq Cu.flag (fun _ c=>Cu.blob c 32768))) _ _:=Trip.seq trip_prs (fun _ _=>h5) (fun _ c=>h5.stuck c) (fun _=>h5.text)
  have h3:Trip (rseq Cu.vec (fun _=>rseq Cu.prs (fun _=>rseq Cu.flag (fun _ c=>Cu.blob c 32768)))) _ _:=Trip.seq trip_vec (fun _ _=>h4) (fun _ c=>h4.stuck c) (fun _=>h4.text)
  have h2:Trip (rseq Cu.okey (fun _=>rseq Cu.vec (fun _=>rseq Cu.prs (fun _=>rseq Cu.flag (fun _ c=>Cu.blob c 32768))))) _ _:=Trip.seq trip_okey (fun _ _=>h3) (fun _ c=>h3.stuck c) (fun _=>h3.text)
  refine trip_kind h2 (fun x=>{ mg0 with kind:=3,id:=id,key:=x.1,ctx:=x.2.1,meta_:=x.2.2.1,dead:=x.2.2.2.1,val:=x.2.2.2.2 }) (fun m=>(m.key,(m.ctx,(m.meta_,(m.dead,m.val))))) (fun _=>rfl) (fun c=>rfl) (fun x=>rfl) (fun x hx=>?_) (fun m h1 h2=>?_)
  ·obtain ⟨⟨⟨k1,k2⟩,k3⟩,k4,k5,_,k6,k7⟩:=hx
   exact ⟨rfl,rfl,rfl,fst0_zero.2 ⟨keychk_zero.2 ⟨by simpa using k1,by simpa using k3⟩,fst0_zero.2 ⟨k4.1,fst0_zero.2 ⟨k5,longchk_zero.2 (by simpa using k6)⟩⟩⟩,⟨k4.2,no_mem,no_mem,no_mem,no_mem⟩,eold_zero,eobj_zero⟩
  ·obtain ⟨g1,g2,g3⟩:=plk h2
   unfold Mg.pl at g1
   rw [g2] at g1
   unfold Mg.chk at g3
   rw [g2] at g3
   obtain ⟨k1,k2⟩:=fst0_zero.1 g3
   obtain ⟨k2,k3⟩:=fst0_zero.1 k2
   obtain ⟨k3,k4⟩:=fst0_zero.1 k3
   obtain ⟨k5,k6⟩:=keychk_zero.1 k1
   have k7:=longchk_zero.1 k4
   refine ⟨by rw [←h1];exact g1,⟨⟨k5,by show m.key.length<_;omega⟩,by simpa using k6⟩,⟨k2,h2.2.2.2.1.1⟩,k3,trivial,k7,by show m.val.length<_;omega⟩
 have b4:Trip (Cu.mbody v 4 id) (ebodym v) (fun m=>m.id=id∧goodm v 4 m):=by
  refine trip_kind trip_vec (fun x=>{ mg0 with kind:=4,id:=id,ctx:=x }) Mg.ctx (fun _=>rfl) (fun _=>rfl) (fun _=>rfl) (fun x hx=>⟨rfl,rfl,rfl,hx.1,⟨hx.2,no_mem,no_mem,no_mem,no_mem⟩,eold_zero,eobj_zero⟩) (fun m h1 h2=>?_)
  obtain ⟨g1,g2,g3⟩:=plk h2
  unfold Mg.pl at g1
  rw [g2] at g1
  unfold Mg.chk at g3
  rw [g2] at g3
  exact ⟨by rw [←h1];exact g1,g3,h2.2.2.2.1.1⟩
 have b5:Trip (Cu.mbody v 5 id) (ebodym v) (fun m=>m.id=id∧goodm v 5 m):=by
  refine trip_kind (trip_blob 31) (fun x=>{ mg0 with kind:=5,id:=id,pre:=x }) Mg.pre (fun _=>rfl) (fun _=>rfl) (fun _=>rfl) (fun x hx=>⟨rfl,rfl,rfl,longchk_zero.2 (by simpa using hx.1),⟨no_mem,no_mem,no_mem,no_mem,no_mem⟩,eold_zero,eobj_zero⟩) (fun m h1 h2=>?_)
  obtain ⟨g1,g2,g3⟩:=plk h2
  unfold Mg.pl at g1
  rw [g2] at g1
  unfold Mg.chk at g3
  rw [g2] at g3
  have:=longchk_zero.1 g3
  exact ⟨by rw [←h1];exact g1,this,by omega⟩
 have b6:Trip (Cu.mbody v 6 id) (ebodym v) (fun m=>m.id=id∧goodm v 6 m):=by
  refine trip_kind trip_page (fun x=>{ mg0 with kind:=6,id:=id,page:=x }) Mg.page (fun _=>rfl) (fun _=>rfl) (fun _=>rfl) (fun x hx=>⟨rfl,rfl,rfl,hx.1,⟨no_mem,no_mem,no_mem,no_mem,hx.2⟩,eold_zero,eobj_zero⟩) (fun m h1 h2=>?_)
  obtain ⟨g1,g2,g3⟩:=plk h2
  unfold Mg.pl at g1
  rw [g2] at g1
  unfold Mg.chk at g3
  rw [g2] at g3
  exact ⟨by rw [←h1];exact g1,g3,h2.2.2.2.1.2.2.2.2⟩
 have b7:Trip (Cu.mbody v 7 id) (ebodym v) (fun m=>m.id=id∧goodm v 7 m):=by
  refine trip_kind trip_ring (fun x=>{ mg0 with kind:=7,id:=id,ring:=x }) Mg.ring (fun _=>rfl) (fun _=>rfl) (fun _=>rfl) (fun x hx=>⟨rfl,rfl,rfl,hx.1,⟨no_mem,no_mem,no_mem,hx.2,no_mem⟩,eold_zero,eobj_zero⟩) (fun m h1 h2=>?_)
  obtain ⟨g1,g2,g3⟩:=plk h2
  unfold Mg.pl at g1
  rw [g2] at g1
  unfold Mg.chk at g3
  rw [g2] at g3
  exact ⟨by rw [←h1];exact g1,g3,h2.2.2.2.1.2.2.2.1⟩
 have b8:Trip (Cu.mbody v 8 id) (ebodym v) (fun m=>m.id=id∧goodm v 8 m):=by
  have hs:Trip (rseq (fun c=>Cu.count c 255) (fun _ c=>Cu.blob c 64)) _ _:=Trip.seq (trip_count 255) (fun _ _=>trip_blob 64) (fun _ c=>(trip_blob 64).stuck c) (fun _=>(trip_blob 64).text)
  refine trip_kind hs (fun x=>{ mg0 with kind:=8,id:=id,code:=(x.1:Nat),txt:=x.2 }) (fun m=>(m.code.toNat,m.txt)) (fun _=>by simp) (fun _=>rfl) (fun x=>by show vput ((x.1:Nat):Int).toNat++_=_;rw [Int.toNat_natCast]) (fun x hx=>?_) (fun m h1 h2=>?_)
  ·obtain ⟨⟨k1,k2⟩,k3,k4⟩:=hx
   simp only [Int.reduceToNat] at k1 k3
   exact ⟨rfl,rfl,rfl,fst0_zero.2 ⟨codechk_zero.2 ⟨by show (0:Int)≤(x.1:Nat);omega,by show ((x.1:Nat):Int)≤255;omega⟩,longchk_zero.2 k3⟩,⟨no_mem,no_mem,no_mem,no_mem,no_mem⟩,eold_zero,eobj_zero⟩
  ·obtain ⟨g1,g2,g3⟩:=plk h2
   unfold Mg.pl at g1
   rw [g2] at g1
   unfold Mg.chk at g3
   rw [g2] at g3
   obtain ⟨k1,k2⟩:=fst0_zero.1 g3
   have k3:=codechk_zero.1 k1
   have k4:=longchk_zero.1 k2
   refine ⟨?_,⟨by show m.code.toNat≤(255:Int).toNat;omega,by show m.code.toNat<_;omega⟩,k4,by show m.txt.length<_;omega⟩
   rw [←h1]
   have e:((m.code.toNat:Nat):Int)=m.code:=by omega
   rw [e];exact g1
 have b9:Trip (Cu.mbody v 9 id) (ebodym v) (fun m=>m.id=id∧goodm v 9 m):=by
  refine trip_kind (trip_nest trip_obj oj0) (fun x=>{ mg0 with kind:=9,id:=id,obj:=x }) Mg.obj (fun _=>rfl) (fun _=>rfl) (fun _=>rfl) (fun x hx=>⟨rfl,rfl,rfl,hx.1.1,⟨no_mem,hx.1.2,no_mem,no_mem,no_mem⟩,eold_zero,hx.2⟩) (fun m h1 h2=>?_)
  obtain ⟨g1,g2,g3⟩:=plk h2
  unfold Mg.pl at g1
  rw [g2] at g1
  unfold Mg.chk at g3
  rw [g2] at g3
  exact ⟨by rw [←h1];exact g1,⟨g3,h2.2.2.2.1.2.1⟩,h2.2.2.2.2.2⟩
 rcases has_cases hh with ⟨hv,rfl|rfl|rfl⟩|⟨hv,rfl|rfl|rfl|rfl|rfl|rfl|rfl|rfl|rfl⟩
 ·exact b1
 ·exact b2a hv
 ·exact b8
 ·exact b1
 ·exact b2b hv
 ·exact b3
 ·exact b4
 ·exact b5
 ·exact b6
 ·exact b7
 ·exact b8
 ·exact b9
theorem trip_msg{v k:Nat}(hh:has v k=true):Trip (Cu.msg v k) (encm v) (fun m=>m.id<18446744073709551616∧goodm v k m):=
 Trip.bind (R:=Cu.vtake) (S:=fun id c=>Cu.mbody v k id c) trip_v (fun id _=>trip_mbody hh id) (fun id c h=>(trip_mbody hh id).stuck c h) (fun id c=>(trip_mbody hh id).text c) (key:=Mg.id) (enc:=encm v)
  (good:=fun m=>m.id<18446744073709551616∧goodm v k m) (fun b=>rfl) (fun b=>⟨fun h=>⟨h.1,rfl,h.2⟩,fun h=>⟨h.1,h.2.2⟩⟩) (fun a b _ h=>h.1)
theorem pens_skip{α:Type}:Pens (fun p (_:α)=>p) (fun _=>[]) (fun _=>True) where
 stuck:=fun p x h=>rfl
 m:=fun p x=>rfl
 len:=fun p x=>Nat.le_refl _
 cap:=fun p x=>.inr (Nat.le_refl _)
 yes:=fun p x h=>⟨h,by simp,trivial⟩
 fit:=fun p x h _ _=>by
  obtain ⟨b,m,e⟩:=p
  simp only at h
  subst h
  simp
theorem pens_code:Pens (fun p (n:Int)=>Pe.count p 255 n) (fun n=>vput n.toNat) (fun n=>0≤n∧n≤255):=by
 have h:=Pens.chk ((pens_count 255).on Int.toNat) (fun n:Int=>if n<0 then 1 else 0)
 have e:(fun p (n:Int)=>Pe.count p 255 n)=fun p (n:Int)=>if (if n<0 then (1:Int) else 0)≠0 then p.fail (if n<0 then 1 else 0) else Pe.count p 255 (n.toNat:Nat):=by
  funext p n
  by_cases hn:n<0
  ·rw [if_pos hn,if_pos (by decide)];unfold Pe.count;rw [if_pos hn]
  ·rw [if_neg hn,if_neg (by decide),show ((n.toNat:Nat):Int)=n by omega]
 rw [e]
 refine Pens.iff h fun n=>?_
 simp only [Int.reduceToNat]
 constructor
 ·rintro ⟨h1,h2⟩
  split at h1
  ·exact absurd h1 (by decide)
  ·omega
 ·intro h1;exact ⟨by rw [if_neg (by omega)],by omega⟩
theorem pens_ringp:Pens Pe.ringp ering (fun l=>Ring.check l=0):=Pens.iff (Pens.chk (pens_text.on ering) Ring.check) fun l=>⟨fun h=>h.1,fun h=>⟨h,trivial⟩⟩
theorem body_of{v:Nat}{W:Pe→Mg→Pe}{enc:Mg→List UInt8}{ok:Mg→Prop}(h:Pens W enc ok){m:Mg}(hw:∀ p,Pe.mbody v p m=W p m)(he:ebodym v m=enc m)(h1:ok m→okl v m)(h2:m.chk v=0→okl v m→ok m) :
  (∀ p,(Pe.mbody v p m).e=0→p.e=0∧(Pe.mbody v p m).b=p.b++ebodym v m∧okl v m)∧(∀ p,p.e=0→m.chk v=0→okl v m→((p.b.length+(ebodym v m).length:Nat):Int)≤p.m→Pe.mbody v p m=⟨p.b++ebodym v m,p.m,0⟩)∧∀ p,((Pe.mbody v p m).b.length:Int)≤p.m∨(Pe.mbody v p m).b.length≤p.b.length:=by
 refine ⟨fun p hp=>?_,fun p hp hc hk hl=>?_,fun p=>?_⟩
 ·rw [hw] at hp ⊢
  obtain ⟨g1,g2,g3⟩:=h.yes p m hp
  rw [he]
  exact ⟨g1,g2,h1 g3⟩
 ·rw [hw,he]
  rw [he] at hl
  exact h.fit p m hp (h2 hc hk) hl
 ·rw [hw];exact h.cap p m
theorem okl_zero{v:Nat}{m:Mg}(h1:(m.pl v).old=od0)(h2:(m.pl v).obj=oj0):okl v m:=⟨by rw [h1];exact eold_zero,by rw [h2];exact eobj_zero⟩
theorem body_pens{v:Nat}{m:Mg}(hh:has v m.kind=true) :
  (∀ p,(Pe.mbody v p m).e=0→p.e=0∧(Pe.mbody v p m).b=p.b++ebodym v m∧okl v m)∧(∀ p,p.e=0→m.chk v=0→okl v m→((p.b.length+(ebodym v m).length:Nat):Int)≤p.m→Pe.mbody v p m=⟨p.b++ebodym v m,p.m,0⟩)∧∀ p,((Pe.mbody v p m).b.length:Int)≤p.m∨(Pe.mbody v p m).b.length≤p.b.length:=by
 obtain ⟨kind,id,key,found,obj,old,ctx,meta_,dead,val,pre,page,ring,code,txt⟩:=m
 simp only at hh
 have c1:kind=1→_:=fun h=>by
  subst h
  exact body_of (v:=v) (m:=⟨1,id,key,found,obj,old,ctx,meta_,dead,val,pre,page,ring,code,txt⟩) ((pens_blob 128).on Mg.key) (fun _=>rfl) rfl (fun _=>okl_zero rfl rfl) (fun hc _=>by simpa using (keychk_zero.1 hc).1)
 have c8:kind=8→_:=fun h=>by
  subst h
  exact body_of (v:=v) (m:=⟨8,id,key,found,obj,old,ctx,meta_,dead,val,pre,page,ring,code,txt⟩) ((pens_code.on Mg.code).seq ((pens_blob 64).on Mg.txt)) (fun _=>rfl) rfl (fun _=>okl_zero rfl rfl) (fun hc _=>by
   obtain ⟨g1,g2⟩:=fst0_zero.1 hc
   exact ⟨codechk_zero.1 g1,by simpa using longchk_zero.1 g2⟩)
 rcases has_cases hh with ⟨hv,h|h|h⟩|⟨hv,h|h|h|h|h|h|h|h|h⟩
 ·subst h;exact c1 rfl
 ·subst h hv
  have hp:=(pens_flag.on Mg.found).seq (Pens.ite ((pens_nest pens_old).on Mg.old) pens_skip Mg.found)
  refine body_of (v:=1) (m:=⟨2,id,key,found,obj,old,ctx,meta_,dead,val,pre,page,ring,code,txt⟩) hp (fun p=>?_) ?_ (fun h=>?_) (fun hc hk=>?_)
  ·simp only [Pe.mbody,if_true]
  ·simp only [ebodym,if_true]
  ·obtain ⟨_,h⟩:=h
   refine ⟨?_,by show (eobj (if found=true∧1=2 then obj else oj0)).length≤_;rw [if_neg (by simp)];exact eobj_zero⟩
   show (eold (if found=true∧1=1 then old else od0)).length≤_
   cases found with
   | true=>simp only [if_true] at h;rw [if_pos ⟨rfl,rfl⟩];exact h.2
   | false=>rw [if_neg (by simp)];exact eold_zero
  ·refine ⟨trivial,?_⟩
   cases found with
   | true=>
    simp only [if_true]
    have h1:=hk.1
    rw [show (Mg.pl 1 ⟨2,id,key,true,obj,old,ctx,meta_,dead,val,pre,page,ring,code,txt⟩).old=(if true=true∧1=1 then old else od0) from rfl,if_pos ⟨rfl,rfl⟩] at h1
    exact ⟨hc,h1⟩
   | false=>simp only [Bool.false_eq_true,if_false]
 ·subst h;exact c8 rfl
 ·subst h;exact c1 rfl
 ·subst h hv
  have hp:=(pens_flag.on Mg.found).seq (Pens.ite ((pens_nest pens_obj).on Mg.obj) pens_skip Mg.found)
  refine body_of (v:=2) (m:=⟨2,id,key,found,obj,old,ctx,meta_,dead,val,pre,page,ring,code,txt⟩) hp (fun p=>?_) ?_ (fun h=>?_) (fun hc hk=>?_)
  ·simp only [Pe.mbody,if_neg n21]
  ·simp only [ebodym,if_neg n21]
  ·obtain ⟨_,h⟩:=h
   refine ⟨?_,?_⟩
   ·show (eold (if found=true∧2=1 then old else od0)).length≤_
    rw [if_neg (by simp)];exact eold_zero
   ·show (eobj (if found=true∧2=2 then obj else oj0)).length≤_
    cases found with
    | true=>simp only [if_true] at h;rw [if_pos ⟨rfl,rfl⟩];exact h.2
    | false=>rw [if_neg (by simp)];exact eobj_zero
  ·refine ⟨trivial,?_⟩
   cases found with
   | true=>
    simp only [if_true]
    have h1:=hk.2
    rw [show (Mg.pl 2 ⟨2,id,key,true,obj,old,ctx,meta_,dead,val,pre,page,ring,code,txt⟩).obj=(if true=true∧2=2 then obj else oj0) from rfl,if_pos ⟨rfl,rfl⟩] at h1
    exact ⟨hc,h1⟩
   | false=>simp only [Bool.false_eq_true,if_false]
 ·subst h
  have hp:=((((pens_blob 128).on Mg.key).seq (pens_vec.on Mg.ctx)).seq (pens_prs.on Mg.meta_)).seq (pens_flag.on Mg.dead) |>.seq ((pens_blob 32768).on Mg.val)
  refine body_of (v:=v) (m:=⟨3,id,key,found,obj,old,ctx,meta_,dead,val,pre,page,ring,code,txt⟩) hp (fun p=>rfl) ?_ (fun _=>okl_zero rfl rfl) (fun hc _=>?_)
  ·simp only [ebodym,List.append_assoc]
  ·obtain ⟨k1,k2⟩:=fst0_zero.1 hc
   obtain ⟨k2,k3⟩:=fst0_zero.1 k2
   obtain ⟨k3,k4⟩:=fst0_zero.1 k3
   exact ⟨⟨⟨⟨by simpa using (keychk_zero.1 k1).1,k2⟩,k3⟩,trivial⟩,by simpa using longchk_zero.1 k4⟩
 ·subst h
  exact body_of (v:=v) (m:=⟨4,id,key,found,obj,old,ctx,meta_,dead,val,pre,page,ring,code,txt⟩) (pens_vec.on Mg.ctx) (fun _=>rfl) rfl (fun _=>okl_zero rfl rfl) (fun hc _=>hc)
 ·subst h
  exact body_of (v:=v) (m:=⟨5,id,key,found,obj,old,ctx,meta_,dead,val,pre,page,ring,code,txt⟩) ((pens_blob 31).on Mg.pre) (fun _=>rfl) rfl (fun _=>okl_zero rfl rfl) (fun hc _=>by simpa using longchk_zero.1 hc)
 ·subst h
  exact body_of (v:=v) (m:=⟨6,id,key,found,obj,old,ctx,meta_,dead,val,pre,page,ring,code,txt⟩) (pens_page.on Mg.page) (fun _=>rfl) rfl (fun _=>okl_zero rfl rfl) (fun hc _=>hc)
 ·subst h
  exact body_of (v:=v) (m:=⟨7,id,key,found,obj,old,ctx,meta_,dead,val,pre,page,ring,code,txt⟩) (pens_ringp.on Mg.ring) (fun _=>rfl) rfl (fun _=>okl_zero rfl rfl) (fun hc _=>hc)
 ·subst h;exact c8 rfl
 ·subst h
  exact body_of (v:=v) (m:=⟨9,id,key,found,obj,old,ctx,meta_,dead,val,pre,page,ring,code,txt⟩) ((pens_nest pens_obj).on Mg.obj) (fun _=>rfl) rfl (fun h=>⟨eold_zero,h.2⟩) (fun hc hk=>⟨hc,hk.2⟩)
theorem has_check{v:Nat}{m:Mg}(h:has v m.kind=true):m.check v=m.chk v:=by
 unfold Mg.check
 rcases has_cases h with ⟨rfl,_⟩|⟨rfl,_⟩
 ·rw [if_neg (by simp),if_neg (by simp [h])]
 ·rw [if_neg (by simp),if_neg (by simp [h])]
theorem msge_fit{v:Nat}{m:Mg}(hh:has v m.kind=true)(hk:m.chk v=0)(hl:okl v m)(hs:(encm v m).length≤65536):msge v m=(encm v m,0):=by
 obtain ⟨_,g2,_⟩:=body_pens hh
 unfold msge
 rw [if_neg (by rw [has_check hh];simpa using hk)]
 have e1:Pe.text ⟨[],65536,0⟩ (vput m.id)=⟨vput m.id,65536,0⟩:=by
  have:=pens_text.fit ⟨[],65536,0⟩ (vput m.id) rfl trivial (by
   unfold encm at hs
   rw [List.length_append] at hs
   show ((([]:List UInt8).length+(vput m.id).length:Nat):Int)≤65536
   simp only [List.length_nil];omega)
  simpa using this
 rw [e1,g2 ⟨vput m.id,65536,0⟩ rfl hk hl (by
  show (((vput m.id).length+(ebodym v m).length:Nat):Int)≤65536
  unfold encm at hs
  rw [List.length_append] at hs
  omega)]
 rfl
end Go.AW
