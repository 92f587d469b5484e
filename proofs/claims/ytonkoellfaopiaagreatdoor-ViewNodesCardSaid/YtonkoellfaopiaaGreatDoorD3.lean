import Derived.Test.YtonkoellfaopiaaGreatDoorD2
set_option linter.unusedSimpArgs false
set_option linter.unusedVariables false
set_option linter.unusedSectionVars false
namespace Go.Proofs.YtonkoellfaopiaaGreatDoor.H
open Go Go.RowKit
section
variable [dq] {P:Program} {G:Gh} {w w0:World} {nt B0:Nat} {fr:Fr} {a:Act} {h:Heap}
theorem wP (hs:cR B0 w0 G h w) {get:Nat→Option B} (hg:∀ b x,get b=some x→h.get b=some x) {d sz n:Nat} {cs:List S} {c:Array Value} {ts:List T} {l:List Nat} (hts:tJ get d cs=some (ts,l)) (hle:c.size=cs.length) (hn:cs.length=n*sz) (hc:nf G w c cs):
  pP (G.dJ h l) w c sz n (fun i=>(ts.drop (i.1*sz)).take sz)∧∀ i:Fin n,((ts.drop (i.1*sz)).take sz).length=sz:=by
 have htl:=mO hs hg d cs c.toList ts l hts (dZ hle hc)
 have hlen:ts.length=n*sz:=by rw [htl.1,Array.length_toList,hle,hn]
 refine ⟨fun i k t hk=>?_,fun i=>?_⟩
 ·obtain ⟨h1,h2⟩:=lD hk
  have hlt:=(List.getElem?_eq_some_iff.1 h1).1
  rw [htl.1,Array.length_toList] at hlt
  have hv:c[i.1*sz+k]?=some c[i.1*sz+k]:=by simp [hlt]
  exact ⟨_,hv,htl.2 _ t _ h1 (by rw [Array.getElem?_toList];exact hv)⟩
 ·rw [List.length_take,List.length_drop,hlen]
  have:=Nat.mul_le_mul_right sz i.2
  rw [Nat.succ_eq_add_one,Nat.succ_mul] at this
  omega
theorem mC {r sz n:Nat} {g:Fin n→List T} {c:Array Value} {ty:TypeId} {fz:Nat × Nat} (hbl:w.heap[r]?=some (.cells c ty fz)) (hc:pP G w c sz n g):xN w G.bB r 0 sz n g:=fun i k t ht=>by
 obtain ⟨v,hv,hr⟩:=hc i k t ht
 exact ⟨v,by rw [Nat.zero_add,eB hbl];exact hv,hr⟩
theorem pK (hs:cR B0 w0 G h w) {get:Nat→Option B} (hg:∀ b x,get b=some x→h.get b=some x) {sz m:Nat} {y:S} {vy:Value} {g':Fin m→List T} {l:List Nat} (hz:sz≠0) (hy:aY G w y vy) (hsrc:ni get sz y=some ⟨m,g',l⟩):
  ∃ cap,Yields P w (G.dJ h l).bB vy sz m cap g':=by
 have up:∀ {v:Value} {n cap:Nat} {g:Fin n→List T},Yields P w G.bB v sz n cap g→Yields P w (G.dJ h l).bB v sz n cap g:=fun hh=>hh.mono (fun _ h=>.inl h) rfl
 unfold ni at hsrc
 split at hsrc
 ·rename_i sz' n g
  cases e:sz'.beq sz with
  | false=>rw [e] at hsrc;cases hsrc
  | true=>
   rw [e] at hsrc
   obtain rfl:=Nat.eq_of_beq_eq_true e
   cases hsrc
   cases hy with | t hy=>
   obtain ⟨cap,h1,_⟩:=mX (P:=P) hz hy
   exact ⟨cap,up h1⟩
 ·rename_i sz' n g
  cases e:sz'.beq sz with
  | false=>rw [e] at hsrc;cases hsrc
  | true=>
   rw [e] at hsrc
   obtain rfl:=Nat.eq_of_beq_eq_true e
   cases hsrc
   cases hy with | full hy=>
   obtain ⟨cap,h1,_⟩:=mX (P:=P) hz hy
   exact ⟨cap,up h1⟩
 ·obtain ⟨rfl,_⟩:=a_ hy
  cases hsrc
  exact ⟨_,up (iV _)⟩
 ·rename_i b n0
  cases hy with | sl hmu hbase=>
  split at hsrc
  ·rename_i fz sz' n g hb
   cases e:sz'.beq sz with
   | false=>rw [e] at hsrc;cases hsrc
   | true=>
    rw [e] at hsrc
    obtain rfl:=Nat.eq_of_beq_eq_true e
    cases hsrc
    have hrep:=hs.rep b _ (hg _ _ hb)
    cases hrep with
    | row hmu' hown hbl hf hcap hle hc hlen hi hB=>
     rw [hmu] at hmu'
     simp only [Option.some.injEq,Value.slice.injEq] at hmu'
     obtain ⟨rfl,rfl,rfl⟩:=hmu'
     exact ⟨_,up (ny hz hlen (mC hbl hc))⟩
    | none hmu' hown=>
     rw [hmu] at hmu'
     simp only [Option.some.injEq,Value.slice.injEq] at hmu'
     obtain ⟨rfl,rfl,rfl⟩:=hmu'
     exact ⟨_,up (iV _)⟩
  ·rename_i fz sz' n cs hb
   cases e:sz'.beq sz with
   | false=>rw [e] at hsrc;cases hsrc
   | true=>
    rw [e,cond_true] at hsrc
    obtain rfl:=Nat.eq_of_beq_eq_true e
    split at hsrc
    ·rename_i ts l' hts
     cases hsrc
     have hrep:=hs.rep b _ (hg _ _ hb)
     cases hrep with
     | fO hmu' hown hbl hf hle hn hc hi hB=>
      rw [hmu] at hmu'
      simp only [Option.some.injEq,Value.slice.injEq] at hmu'
      obtain ⟨rfl,rfl,rfl⟩:=hmu'
      obtain ⟨h1,h2⟩:=wP hs hg hts hle hn hc
      exact ⟨_,ny hz h2 (mC hbl h1)⟩
    ·cases hsrc
  ·cases hsrc
 ·cases hsrc
inductive Wq (B0:Nat) (G:Gh) (w:World) (b sz:Nat):(n:Nat)→(Fin n→List T)→Prop
 | none {base:Option Addr} {g:Fin 0→List T} (hmu:G.mu b=some (.slice base 0 0)):Wq B0 G w b sz 0 g
 | row {n r cap:Nat} {g:Fin n→List T} {c:Array Value} {ty:TypeId} {fz:Nat × Nat} (hmu:G.mu b=some (.slice (some ⟨r,0,none⟩) n cap)) (hown:G.own b=some r) (hbl:w.heap[r]?=some (.cells c ty fz)) (hf:kZ c fz) (hcap:n≤cap) (hl:cap*sz≤c.size)
   (hc:pP G w c sz n g) (hlen:∀ i,(g i).length=sz) (hi:¬ G.bB r) (hB:B0≤r):Wq B0 G w b sz n g
theorem Il (hs:cR B0 w0 G h w) {sz b n:Nat} {g:Fin n→List T} {l:List Nat} (hd:D8 h.get sz b=some ⟨n,g,l⟩):Wq B0 (G.dJ h l) w b sz n g∧h.get b≠none:=by
 unfold D8 at hd
 split at hd
 ·rename_i sz' n g hb
  cases e:sz'.beq sz with
  | false=>rw [e] at hd;cases hd
  | true=>
   rw [e] at hd
   obtain rfl:=Nat.eq_of_beq_eq_true e
   cases hd
   refine ⟨?_,by rw [hb];simp⟩
   have hrep:=(hs.freeze [] 0).1.rep b _ (by rw [(cA [] h b).1,hb];rfl)
   cases hrep with
   | row hmu' hown hbl hf hcap hle hc hlen hi hB=>exact .row hmu' hown hbl hf hcap hle hc hlen (hi rfl) hB
   | none hmu' hown=>exact .none hmu'
 ·rename_i sz' n cs hb
  cases e:sz'.beq sz with
  | false=>rw [e] at hd;cases hd
  | true=>
   rw [e,cond_true] at hd
   obtain rfl:=Nat.eq_of_beq_eq_true e
   split at hd
   ·rename_i ts l' hts
    cases e2:l'.contains b with
    | true=>rw [e2] at hd;cases hd
    | false=>
     rw [e2] at hd
     cases hd
     have hnl:b∉l:=by simpa using e2
     refine ⟨?_,by rw [hb];simp⟩
     have hrep:=hs.rep b _ hb
     have hrep2:=(hs.freeze l 0).1.rep b (.fO false sz' n cs) (by rw [(cA l h b).1,hb];simp [hnl])
     cases hrep with
     | fO hmu' hown hbl hf hle hn hc hi hB=>
      obtain ⟨h1,h2⟩:=wP hs (fun _ _ h=>h) hts hle hn hc
      cases hrep2 with
      | fO hmu2 hown2 hbl2 hf2 hle2 hn2 hc2 hi2 hB2=>
       have:G.own b=_:=hown2
       rw [hown] at this
       obtain rfl:=Option.some.inj this
       exact .row hmu' hown hbl hf (Nat.le_refl _) (by rw [hle,hn];exact Nat.le_refl _) h1 h2 (hi2 rfl) hB
   ·cases hd
 ·cases hd
theorem Ca (hs:cR B0 w0 G h w) {id:Nat} (hlt:id < h.next) (hid:G.mu id=none) (hh:h.get id=none) {t u e e' ty:TypeId} (ht:P.underlying t=some (.slice e)) (hu:P.underlying u=some (.slice e')) (hok:lC P e=true)
  {b n0 n m capy:Nat} {g:Fin n→List T} {g':Fin m→List T} {vx vy:Value} (hd:Wq B0 G w b (P.cellsOf e) n g) (hbn:h.get b≠none) (hx:aY G w (.sl b n0) vx) (hY:Yields P w G.bB vy (P.cellsOf e) m capy g') (hb1:(n+m)*P.bytesOf e≤bE) (hb2:n+m≤bE):
  ∃ v w',(Builtin.append_ #[t,u] ty #[vx,vy]).run P w=.ok v w'∧im B0 w0 id G h w (.sl id (n+m)) ((h.del b).put id (.row false (P.cellsOf e) (n+m) (bo g g'))) v w':=by
 obtain ⟨_,_,_,_,hne,_⟩:=gH hok
 obtain ⟨d1,d2⟩:=hs.del b id
 have hh3:(h.del b).get id=none:=by
  rw [lM]
  split
  ·rfl
  ·exact hh
 have fin3:∀ {s:S} {h2:Heap} {v:Value} {w':World},im B0 w0 id G (h.del b) w s h2 v w'→im B0 w0 id G h w s h2 v w':=fun ⟨G',a1,a2,a3⟩=>⟨G',a1,d2.trans a2,a3⟩
 cases hx with | @sl _ _ cap0 XC hmu hbase=>
 cases hd with
 | @none base g2 hmu'=>
  rw [hmu] at hmu'
  simp only [Option.some.injEq,Value.slice.injEq] at hmu'
  obtain ⟨e1,e2,e3⟩:=hmu'
  subst e2;subst e3
  by_cases hm:m=0
  ·subst hm
   obtain ⟨r1,r2⟩:=rO d1 hlt hid hh3 ht hu hok (ty:=ty) hY (g2:=bo g2 g')
   exact ⟨_,_,r1,fin3 r2⟩
  ·obtain ⟨v,w',r1,r2⟩:=jZ d1 hlt hid hh3 ht hu hok (ty:=ty) (iV (cap:=0) (g:=g2) XC) hY (by omega) hb1 hb2
   exact ⟨v,w',r1,fin3 r2⟩
 | @row n' r cap g2 c tc fz hmu' hown hbl hf hcap hle hc hlen hi hB=>
  rw [hmu] at hmu'
  simp only [Option.some.injEq,Value.slice.injEq] at hmu'
  obtain ⟨e1,e2,e3⟩:=hmu'
  subst e1;subst e2;subst e3
  by_cases hroom:n0+m≤cap0
  ·have hno:∀ b',(h.del b).get b'≠none→G.own b'≠some r:=fun b' hb' ho=>by
    have hne2:b'≠b:=fun e=>hb' (by rw [e,lM,if_pos rfl])
    rw [lM,if_neg (fun e=>hne2 e.symm)] at hb'
    exact hne2 (hs.inj b' b r hb' hbn ho hown)
   obtain ⟨v,w',r1,r2⟩:=Ce d1 hlt hid hh3 ht hu hok (ty:=ty) (r:=r) hno hi hB hbl hf hle hc hlen hY hroom
   exact ⟨v,w',r1,fin3 r2⟩
  ·obtain ⟨v,w',r1,r2⟩:=jZ d1 hlt hid hh3 ht hu hok (ty:=ty) (ny (cap:=cap0) hne hlen (mC hbl hc)) hY (by omega) hb1 hb2
   exact ⟨v,w',r1,fin3 r2⟩
theorem Dk (hs:cR B0 w0 G h w) {id:Nat} (hlt:id < h.next) (hid:G.mu id=none) (hh:h.get id=none) {t u e e' ty:TypeId} (ht:P.underlying t=some (.slice e)) (hu:P.underlying u=some (.slice e'))
  {x y s:S} {vx vy:Value} {h':Heap} (hx:aY G w x vx) (hy:aY G w y vy) (hap:pg P h id e x y=some (s,h')):
  ∃ v w',(Builtin.append_ #[t,u] ty #[vx,vy]).run P w=.ok v w'∧im B0 w0 id G h w s h' v w':=by
 unfold pg at hap
 cases hok:lC P e with
 | false=>rw [hok] at hap;cases hap
 | true=>
  rw [hok,Bool.not_true,cond_false] at hap
  have hne:P.cellsOf e≠0:=by obtain ⟨_,_,_,_,h3,_⟩:=gH hok;exact h3
  split at hap
  ·cases hap
  ·rename_i m g' l hsrc
   obtain ⟨capy,hY⟩:=pK (P:=P) hs (fun _ _ h=>h) hne hy hsrc
   obtain ⟨f1,f2⟩:=hs.freeze l id
   have fid:(G.dJ h l).mu id=none:=hid
   have fnx:(h.freeze l).next=h.next:=(cA l h 0).2
   have fh:(h.freeze l).get id=none:=by rw [(cA l h id).1,hh];rfl
   have fin:∀ {s:S} {h2:Heap} {v:Value} {w':World},im B0 w0 id (G.dJ h l) (h.freeze l) w s h2 v w'→im B0 w0 id G h w s h2 v w':=fun ⟨G',a1,a2,a3⟩=>⟨G',a1,f2.trans a2,a3⟩
   split at hap
   ·obtain ⟨rfl,_⟩:=a_ hx
    cases e1:(m*P.bytesOf e).ble bE && m.ble bE with
    | false=>rw [e1] at hap;cases hap
    | true=>
     rw [e1,cond_true] at hap
     simp only [Option.some.injEq,Prod.mk.injEq] at hap
     obtain ⟨rfl,rfl⟩:=hap
     rw [Bool.and_eq_true] at e1
     by_cases hm:m=0
     ·subst hm
      obtain ⟨r1,r2⟩:=rO f1 (by rw [fnx];exact hlt) fid fh ht hu hok (ty:=ty) (base:=none) hY (g2:=g')
      exact ⟨_,_,r1,fin r2⟩
     ·have hX:Yields P w (G.dJ h l).bB (.slice none 0 0) (P.cellsOf e) 0 0 (fun i=>absurd i.2 (Nat.not_lt_zero _)):=iV _
      obtain ⟨v,w',r1,r2⟩:=jZ f1 (by rw [fnx];exact hlt) fid fh ht hu hok (ty:=ty) hX hY (by omega) (by rw [Nat.zero_add];exact Nat.le_of_ble_eq_true e1.1) (by rw [Nat.zero_add];exact Nat.le_of_ble_eq_true e1.2)
      refine ⟨v,w',r1,fin ?_⟩
      have eg:bo (fun i=>absurd i.2 (Nat.not_lt_zero _):Fin 0→List T) g'=fun i=>g' ⟨i.1,by have:=i.2;omega⟩:=by
       funext i
       unfold bo
       rw [dif_neg (Nat.not_lt_zero _)]
       rfl
      have eb:(B.row false (P.cellsOf e) (0+m) (bo (fun i=>absurd i.2 (Nat.not_lt_zero _):Fin 0→List T) g'))=.row false (P.cellsOf e) m g':=by
       rw [eg]
       have key:∀ (k:Nat) (hk:k=m) (g2:Fin k→List T),(∀ i,g2 i=g' ⟨i.1,by have:=i.2;omega⟩)→B.row false (P.cellsOf e) k g2=.row false (P.cellsOf e) m g':=by
        intro k hk g2 hg2
        subst hk
        congr 1
        funext i;exact hg2 i
       exact key (0+m) (Nat.zero_add m) _ (fun i=>rfl)
      rw [eb,Nat.zero_add] at r2
      exact r2
   ·rename_i sz n g
    cases e1:sz.beq (P.cellsOf e) && ((n+m)*P.bytesOf e).ble bE && (n+m).ble bE with
    | false=>rw [e1] at hap;cases hap
    | true=>
     rw [e1,cond_true] at hap
     simp only [Bool.and_eq_true] at e1
     obtain rfl:=Nat.eq_of_beq_eq_true e1.1.1
     cases hx with | full hx=>
     rename_i base
     have hY2:Yields P w (G.dJ h l).bB (.slice base n n) (P.cellsOf e) n n g:=by
      obtain ⟨cap,q1,_⟩:=mX (P:=P) hne hx
      have q2:=q1
      obtain ⟨b2,l2,e2,_⟩:=q1
      simp only [Value.slice.injEq] at e2
      obtain ⟨_,_,rfl⟩:=e2
      exact q2.mono (fun _ h=>.inl h) rfl
     by_cases hm:m=0
     ·subst hm
      simp only [Nat.beq_refl,cond_true,Option.some.injEq,Prod.mk.injEq] at hap
      obtain ⟨rfl,rfl⟩:=hap
      obtain ⟨l2,hsr,hl2⟩:=hY.src hu
      obtain rfl:l2=[]:=List.length_eq_zero_iff.1 (by rw [hl2.1];simp)
      obtain ⟨i,z,hi,hz,_,hzs,his,hib⟩:=gH hok
      rw [← his] at hsr
      exact ⟨_,_,run_append_nothing w t u ty e i ht hi base n n (Nat.le_refl _) vy hsr,_,f1,f2,.full (hx.mono (fun _ h=>.inl h) (fun _ _=>rfl))⟩
     ·have hb:m.beq 0=false:=by
       cases e:m.beq 0 with
       | false=>rfl
       | true=>exact absurd (Nat.eq_of_beq_eq_true e) hm
      rw [hb,cond_false] at hap
      simp only [Option.some.injEq,Prod.mk.injEq] at hap
      obtain ⟨rfl,rfl⟩:=hap
      obtain ⟨v,w',r1,r2⟩:=jZ f1 (by rw [fnx];exact hlt) fid fh ht hu hok (ty:=ty) hY2 hY (by omega) (Nat.le_of_ble_eq_true e1.1.2) (Nat.le_of_ble_eq_true e1.2)
      exact ⟨v,w',r1,fin r2⟩
   ·rename_i b n0
    split at hap
    ·rename_i n g l' hd
     cases e1:((n+m)*P.bytesOf e).ble bE && (n+m).ble bE with
     | false=>rw [e1] at hap;cases hap
     | true=>
      rw [e1,cond_true] at hap
      simp only [Option.some.injEq,Prod.mk.injEq] at hap
      obtain ⟨rfl,rfl⟩:=hap
      rw [Bool.and_eq_true] at e1
      obtain ⟨hdest,hbn⟩:=Il f1 hd
      obtain ⟨k1,k2⟩:=f1.freeze l' id
      have hx3:aY ((G.dJ h l).dJ (h.freeze l) l') w (.sl b n0) vx:=hx.mono (G':=(G.dJ h l).dJ (h.freeze l) l') (fun _ h=>Or.inl (Or.inl h)) (fun _ _=>rfl) (fun _ _ h=>h)
      have hY3:Yields P w ((G.dJ h l).dJ (h.freeze l) l').bB vy (P.cellsOf e) m capy g':=hY.mono (fun _ h=>Or.inl h) rfl
      obtain ⟨v,w',r1,r2⟩:=Ca k1 (by rw [(cA l' _ 0).2,fnx];exact hlt) hid (by rw [(cA l' _ id).1,fh];rfl) ht hu hok (ty:=ty) hdest (by rw [(cA l' _ b).1];intro e;exact hbn (by simpa using e)) hx3 hY3 (Nat.le_of_ble_eq_true e1.1) (Nat.le_of_ble_eq_true e1.2)
      exact ⟨v,w',r1,fin (by obtain ⟨G',a1,a2,a3⟩:=r2;exact ⟨G',a1,k2.trans a2,a3⟩)⟩
    ·cases hap
   ·cases hap
end
end Go.Proofs.YtonkoellfaopiaaGreatDoor.H
