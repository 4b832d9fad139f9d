/- Part 3 of the proof that WholeDeep returns true; no condition. -/
import Derived.Test.YtdibpoheeffioaaGreatDoorW02
import Derived.Lib.TrailingZeros
namespace Go.Proofs.YtdibpoheeffioaaGreatDoor
set_option linter.all false
section
open Go
set_option maxRecDepth 4000
theorem kL {acc rs:List Rw} {L:List HProp} {w:World} (h:Sat (pars acc::pars rs::L) w):Sat (pars (acc++rs)::L) w:=by
  have h1:=wF.sat h;have h2:Sat (box (rs.map rpar)::(acc.map rpar++L)) w:=(zo (A:=box (rs.map rpar)) (M:=L) (acc.map rpar)).ent.sat h1;have h3:=wF.sat h2;have e:(acc++rs).map rpar++L=acc.map rpar++(rs.map rpar++L):=by simp
  refine wi.sat ?_;rw [e];have h4:Ent (rs.map rpar++(acc.map rpar++L)) (acc.map rpar++(rs.map rpar++L)):=by
    have g1:Ent (rs.map rpar++(acc.map rpar++L)) (box (rs.map rpar)::(acc.map rpar++L)):=wi;have g2:Ent (box (rs.map rpar)::(acc.map rpar++L)) (acc.map rpar++box (rs.map rpar)::L):=(zo (A:=box (rs.map rpar)) (M:=L) (acc.map rpar)).back;have g3:∀(l:List HProp),Ent (l++box (rs.map rpar)::L) (l++(rs.map rpar++L)):=fun l=>by
      induction l with
      | nil=>exact wF
      | cons A l ih=>exact ih.cons
    exact (g1.trans g2).trans (g3 _)
  exact h4.sat h3
theorem jt (gs:List Ly) (g:Ly):rowsOf (gs++[g])=rowsOf gs++g.rs:=by simp [rowsOf]
theorem sat_lay {x p n0 ng c1 c2:Nat} {links:List Lk} {gs0:List Ly} {g:Ly} {a1 a2:Option Addr} {L:List HProp} {w:World} (h1:links.length=n0) (h2:gs0.length+1=ng)
    (h:Sat (own (.slice a2 ng c2) 110 6 (lyls gs0++lyl g)::idh x p a1 n0 c1 a2 ng c2::ldi a1 n0 c1 links::gpars gs0::pars (rowsOf gs0)::gpar g::pars g.rs::L) w):Sat (idx x p links (gs0++[g])::L) w:=by
  have h3:=wX h;have h4:Sat (gpar g::gpars gs0::rds (.slice a2 ng c2) 6 (lyls gs0++lyl g)::idh x p a1 n0 c1 a2 ng c2::ldi a1 n0 c1 links::pars (rowsOf gs0)::pars g.rs::L) w :=
    (Pm.cons (.there (.there (.there (.there (.there .here))))) (Pm.cons (.there (.there (.there .here))) .refl)).sat w h3
  have h5:=xP h4;have h6:Sat (pars (rowsOf gs0)::pars g.rs::box ((gs0++[g]).map gpar)::rds (.slice a2 ng c2) 6 (lyls gs0++lyl g)::idh x p a1 n0 c1 a2 ng c2::ldi a1 n0 c1 links::L) w :=
    (Pm.cons (.there (.there (.there (.there .here)))) (Pm.cons (.there (.there (.there (.there .here)))) .refl)).sat w h5
  have h7:=kL h6;rw [←jt] at h7;refine js (x:=x) (p:=p) (n1:=n0) (n2:=ng) (a:=a1) (c:=c1) (a2:=a2) (c2:=c2) h1 (by rw [List.length_append];exact h2) ?_;have h8:lydi a2 ng c2 (gs0++[g])=rds (.slice a2 ng c2) 6 (lyls gs0++lyl g):=by
    show rds _ _ _=_;rw [lyls_append];simp [lyls]
  rw [h8];exact (Pm.cons (.there (.there (.there .here))) (Pm.cons (.there (.there (.there .here))) (Pm.cons (.there (.there .here)) (Pm.cons (.there .here) (Pm.cons .here .refl))))).sat w h7
abbrev links1 (ls0:List Lk) (z base:Nat) (rs:List Rw):List Lk:=ls0++[(z,rs.length,crc (graphB base rs))]
abbrev laid1 (D:List Fd) (z q1 base:Nat) (rs:List Rw):List Fd:=putD D (gname z) q1 (graphB base rs)
abbrev laid2 (D:List Fd) (ls0:List Lk) (z q1 q2 base:Nat) (rs:List Rw):List Fd:=putD (laid1 D z q1 base rs) chainN q2 (chainB (links1 ls0 z base rs))
theorem jO {D:List Fd} {ls0:List Lk} {z q1 q2 base:Nat} {rs:List Rw} (hn:(D.map (·.1)).Nodup) (d:Fd):d∈laid2 D ls0 z q1 q2 base rs↔d=(chainN,q2,chainB (links1 ls0 z base rs))∨((d=(gname z,q1,graphB base rs)∨(d∈D∧d.1≠gname z))∧d.1≠chainN):=by
  refine (jM (zP hn) d).trans ?_;rw [jM hn]
theorem laid_nodup {D:List Fd} {ls0:List Lk} {z q1 q2 base:Nat} {rs:List Rw} (hn:(D.map (·.1)).Nodup):((laid2 D ls0 z q1 q2 base rs).map (·.1)).Nodup:=zP (zP hn)
theorem putD_len (D:List Fd) (s:ByteArray) (q:Nat) (b:List UInt8):(putD D s q b).length≤D.length+1:=by
  induction D with
  | nil=>simp [putD]
  | cons d D ih=>simp only [putD];split<;>simp<;>omega
theorem putD_used (D:List Fd) (s:ByteArray) (q:Nat) (b:List UInt8):used (putD D s q b)≤used D+b.length:=by
  induction D with
  | nil=>simp [putD,used]
  | cons d D ih =>
    simp only [putD]
    split
    · simp [used];omega
    · simp only [used,List.map_cons,List.sum_cons] at ih ⊢;omega
theorem laid1_len (D:List Fd) (z q1 base:Nat) (rs:List Rw):(laid1 D z q1 base rs).length≤D.length+1:=putD_len _ _ _ _
theorem laid1_used (D:List Fd) (z q1 base:Nat) (rs:List Rw):used (laid1 D z q1 base rs)≤used D+(graphB base rs).length:=putD_used _ _ _ _
theorem laid2_len (D:List Fd) (ls0:List Lk) (z q1 q2 base:Nat) (rs:List Rw):(laid2 D ls0 z q1 q2 base rs).length≤D.length+2:=Nat.le_trans (putD_len _ _ _ _) (Nat.succ_le_succ (putD_len _ _ _ _))
theorem dm_names (D:List Fd):(dm D).map (·.1)=D.map (·.1):=by simp [dm]
structure LayOk (D2:List Fd) (lb:List UInt8) (ls ls0:List Lk) (gs gs0:List Ly) (zb base:Nat) (rs:List Rw):Prop where
  x:XOk D2 ls gs
  lays:LaysOk ls0 gs0
  sub:∀l∈ls0,l∈ls
  links:GoodL ls0
  good:GoodG base rs
  base_:base=(rowsOf gs0).length
  few:ls0.length≤7
  all:(rowsOf gs0).length+rs.length≤1000
  one:1≤rs.length
  num:∀l∈ls,l.1<zb
  zb:zb≤890
  log:lb.length≤4000000
section
variable {D2:List Fd} {lb:List UInt8} {ls ls0:List Lk} {gs gs0:List Ly} {zb base ql z q1 q2:Nat} {rs:List Rw} (H:LayOk D2 lb ls ls0 gs gs0 zb base rs)
include H
theorem LayOk.nodup:(((logN,ql,lb)::D2).map (·.1)).Nodup:=H.x.disk.nd
theorem LayOk.len:((logN,ql,lb)::D2).length≤10:=by
  have h1:=H.x.disk.few;have h2:=H.x.lays.few;simp only [List.length_cons];omega
theorem LayOk.used_:used ((logN,ql,lb)::D2)≤5000000:=by
  have h1:=used_le H.x.disk.size;have h2:=H.x.disk.few;have h3:=H.x.lays.few;have h4:=H.log;have h5:used ((logN,ql,lb)::D2)=lb.length+used D2:=by simp [used]
  have h6:100000*D2.length≤100000*9:=Nat.mul_le_mul_left _ qd;omega
theorem LayOk.name {s:ByteArray} (hs:∃d∈((logN,ql,lb)::D2),d.1=s):s=logN∨s=chainN∨∃k,k<zb∧s=gname k:=by
  obtain ⟨d,hd,rfl⟩:=hs;rcases List.mem_cons.1 hd with rfl | hd
  · exact .inl rfl
  · rcases H.x.disk.name d hd with h | ⟨l,hl,h⟩
    · exact .inr (.inl h)
    · exact .inr (.inr ⟨l.1,H.num l hl,h⟩)
theorem LayOk.none1:lookL (dm ((logN,ql,lb)::D2)) graphT=none:=jm fun d hd e=>by
  rcases H.name ⟨d,hd,e⟩ with h | h | ⟨k,_,h⟩
  · exact absurd h (by decide)
  · exact absurd h (by decide)
  · exact vj k h.symm
theorem LayOk.name1 {s:ByteArray} (hz:z≤zb) (hs:∃d∈laid1 ((logN,ql,lb)::D2) z q1 base rs,d.1=s):s=logN∨s=chainN∨∃k,k≤zb∧s=gname k:=by
  obtain ⟨d,hd,rfl⟩:=hs;rw [jM H.nodup] at hd;rcases hd with rfl | ⟨hd,_⟩
  · exact .inr (.inr ⟨z,hz,rfl⟩)
  · rcases H.name ⟨d,hd,rfl⟩ with h | h | ⟨k,hk,h⟩
    · exact .inl h
    · exact .inr (.inl h)
    · exact .inr (.inr ⟨k,by omega,h⟩)
theorem LayOk.none2 (hz:z≤zb):lookL (dm (laid1 ((logN,ql,lb)::D2) z q1 base rs)) chainT=none:=jm fun d hd e=>by
  rcases H.name1 hz ⟨d,hd,e⟩ with h | h | ⟨k,_,h⟩
  · exact absurd h (by decide)
  · exact absurd h (by decide)
  · exact gname_chainT k h.symm
theorem LayOk.name2 {s:ByteArray} (hz:z≤zb) (hs:∃d∈laid2 ((logN,ql,lb)::D2) ls0 z q1 q2 base rs,d.1=s):s=logN∨s=chainN∨∃k,k<1000∧s=gname k:=by
  obtain ⟨d,hd,rfl⟩:=hs;have:=H.zb;rw [jM (zP H.nodup)] at hd;rcases hd with rfl | ⟨hd,_⟩
  · exact .inr (.inl rfl)
  · rcases H.name1 hz ⟨d,hd,rfl⟩ with h | h | ⟨k,hk,h⟩
    · exact .inl h
    · exact .inr (.inl h)
    · exact .inr (.inr ⟨k,by omega,h⟩)
theorem LayOk.none3 (hz:z≤zb):lookL (dm (laid2 ((logN,ql,lb)::D2) ls0 z q1 q2 base rs)) ⟨#[]⟩=none:=jm fun d hd e=>by
  rcases H.name2 hz ⟨d,hd,e⟩ with h | h | ⟨k,_,h⟩
  · exact absurd h (by decide)
  · exact absurd h (by decide)
  · exact gname_nil k h.symm
theorem LayOk.goodL (hz1:∀l∈ls,l.1<z) (hz:z≤zb):GoodL (links1 ls0 z base rs) where
  len:=by have:=H.few;simp;omega
  num l hl:=by
    have:=H.zb;rcases List.mem_append.1 hl with h | h
    · have:=hz1 l (H.sub l h);omega
    · rw [List.mem_singleton.1 h];show z≤_;omega
  cnt l hl:=by
    have:=H.one;have:=H.all;rcases List.mem_append.1 hl with h | h
    · exact H.links.cnt l h
    · rw [List.mem_singleton.1 h];exact ⟨by assumption,by show rs.length≤_;omega⟩
  crc l hl:=by
    rcases List.mem_append.1 hl with h | h
    · exact H.links.crc l h
    · rw [List.mem_singleton.1 h];exact kB _
  ne:=by
    rw [List.map_append];refine List.nodup_append.2 ⟨H.links.ne,by simp,fun a ha b hb=>?_⟩;obtain ⟨l,hl,rfl⟩:=List.mem_map.1 ha;simp at hb;subst hb;have:=hz1 l (H.sub l hl);omega
  tot:=by
    have h1:=H.lays.tot;have h2:=H.all;have:tot (links1 ls0 z base rs)=tot ls0+rs.length:=by simp [tot,links1]
    omega
theorem LayOk.keep_log:keepB (links1 ls0 z base rs) logN=true:=by simp [keepB]
theorem LayOk.keep_alien (hz:z≤zb) {s:ByteArray} (hs:∃d∈laid2 ((logN,ql,lb)::D2) ls0 z q1 q2 base rs,d.1=s) (ha:Alien s):keepB (links1 ls0 z base rs) s=true:=by
  rcases H.name2 hz hs with rfl | rfl | ⟨k,hk,rfl⟩
  · simp [keepB]
  · simp [keepB]
  · have h1:=ha.pre;have h2:=gname_pre k;have h3:=kw k;simp only [decide_eq_false_iff_not,not_and] at h1;exact absurd h2 (h1 (by rw [h3];show 6≤_;omega))
theorem LayOk.keep_g (hz1:∀l∈ls,l.1<z) (hz:z≤zb) {k:Nat} (hk:k<1000):keepB (links1 ls0 z base rs) (gname k)=decide (∃l∈links1 ls0 z base rs,decide (l.1=k)=true):=by
  have h1:decide (gname k=logN)=false:=by simpa using jy k
  have h2:decide (gname k=chainN)=false:=by simpa using jz k
  have hzb:=H.zb;rw [keepB,h1,h2,Bool.false_or,Bool.false_or,Bool.eq_iff_iff,List.any_eq_true,decide_eq_true_eq];constructor
  · rintro ⟨l,hl,e⟩;refine ⟨l,hl,?_⟩;have hl2:l.1<1000:=by
      rcases List.mem_append.1 hl with h | h
      · have:=hz1 l (H.sub l h);omega
      · rw [List.mem_singleton.1 h];show z<_;omega
    simpa using gname_inj hl2 hk (of_decide_eq_true e)
  · rintro ⟨l,hl,e⟩;exact ⟨l,hl,by simp only [decide_eq_true_eq] at e ⊢;rw [e]⟩
end
theorem nodup_takeB {ss:List ByteArray} {i:Nat} (h:ss.Nodup) (hi:i<ss.length):ss.getD i ⟨#[]⟩∉ss.take i:=by
  intro hm;obtain ⟨j,hj,e⟩:=List.getElem_of_mem hm;simp only [List.length_take] at hj;rw [List.getElem_take,List.getD_eq_getElem?_getD,List.getElem?_eq_getElem hi] at e;have:=(List.getElem_inj h).1 e;omega
theorem lcells_app (a b:List Lk):lcells (a++b)=lcells a++lcells b:=jg a b
theorem sp43 (x p bm t ql zb:Nat) (lb:List UInt8) (D2:List Fd) (ls ls0:List Lk) (gs gs0:List Ly) (et:TypeId) (ep:Value) (base cap c0 cg lc gn gc:Nat) (a a0 ag la ga:Option Addr) (rs:List Rw) (H:LayOk D2 lb ls ls0 gs gs0 zb base rs) (ht:t≤800000):Spec Tryz.prog 43 #[ptr x,.slice a0 ls0.length c0,.slice ag gs0.length cg,gv base a rs.length cap]
    (fun T=>idh x p la ls.length lc ga gn gc::ldi la ls.length lc ls::ldi a0 ls0.length c0 ls0::lydi ag gs0.length cg gs0::gpars gs0::pars (rowsOf gs0)::gdi a rs.length cap rs::pars rs::fsh p bm (t)::mpo bm (dm (((logN,ql,lb)::D2)))::fls (((logN,ql,lb)::D2))::pw10::errG et ep::T) (fun r T L=>∃z q1 q2 t3 D3,r=.int .i64 0∧(∀l∈ls,l.1<z)∧z≤zb∧t3≤t+20∧D3=(laid2 ((logN,ql,lb)::D2) ls0 z q1 q2 base rs).filter (fun d=>keepB (links1 ls0 z base rs) d.1)∧L=idx x p (links1 ls0 z base rs) (gs0++[⟨base,a,cap,rs⟩])::fsh p bm (t3)::mpo bm (dm (D3))::fls (D3)::pw10::errG et ep::T):=by
  refine spec_of (n:=128) (args:=[ptr x,.slice a0 ls0.length c0,.slice ag gs0.length cg,gv base a rs.length cap]) Tryz.func43 rfl rfl rfl rfl fun T=>?_;have hfew:=H.few;have hall:=H.all;have hone:=H.one;have hzbb:=H.zb;have hlsf:=H.x.lays.few;have hgl0:=H.lays.len;have hnd:=H.nodup (ql:=ql);have hDl:=H.len (ql:=ql);have hDu:=H.used_ (ql:=ql);have hgB:=graphB_le H.good;have hgz:(⟨(graphB base rs).toArray⟩:ByteArray).size=(graphB base rs).length:=rfl;refine qw (qu ?_);refine qC rfl (wx rfl fun b7=>?_);refine qo (qx (qv (qw (qu (qb (wm rfl) ?_)))));refine qC rfl (qH qh (sp75 base rs.length cap a rs rfl H.good) rfl ?_);rintro _ _ ⟨rfl,rfl⟩;refine qe ?_;refine qb (qP rfl) ?_;refine qb (qP rfl) ?_;refine qi ?_;refine qi ?_;refine qx (qv (qw (qw (qu (qe ?_)))));refine wq rfl (wB rfl rfl) (by simp) ?_;refine qx (qv (qB rfl ?_));refine qF (qv (qw (qu (qe ?_))));refine qb (qy rfl) ?_;refine qb (qE rfl) ?_;refine qb (qA rfl) ?_;refine qC rfl (qH qh (sp76 ls.length lc la ls rfl qd (fun l hl=>by have:=H.num l hl;omega)) rfl ?_);rintro _ _ ⟨z,rfl,hz0,hz1,hz2,rfl⟩;have hz:=hz2 zb H.num;refine qi ?_;refine qx (qv ?_);refine wx_cutE (fun v L=>∃(a41:Option Addr) (c41:Nat),(∃v0,v=ups v0 [(0,ptr x),(1,.slice a41 (ls0.length+1) c41),(2,.slice ag gs0.length cg),(7,.pointer (some ⟨b7,0,none⟩)),(9,.string (⟨(graphB base rs).toArray⟩:ByteArray)),(11,.int .i64 z)])∧L=own (.slice a41 (ls0.length+1) c41) 117 3 (lcells (links1 ls0 z base rs))::idh x p la ls.length lc ga gn gc::ldi la ls.length lc ls::lydi ag gs0.length cg gs0::gpars gs0::pars (rowsOf gs0)::gdi a rs.length cap rs::pars rs::pt b7 (cl (gl base a rs.length cap) 110)::fsh p bm (t)::mpo bm (dm (((logN,ql,lb)::D2)))::fls (((logN,ql,lb)::D2))::pw10::errG et ep::T) ?_ ?_
  · refine wg [] [pt b7 (cl (gl base a rs.length cap) 110)] mixed qm 13 rfl ?_;refine qk 0 rfl (qK qg) ?_;refine qk 2 rfl (qK qg) ?_;refine qk 3 rfl (qE rfl) ?_;refine qk 4 rfl (qA rfl) ?_;refine qk 5 rfl (qI rfl) ?_;refine qk 6 rfl (qK qg) ?_;refine qO [1,7] qj rfl ⟨?_,?_,trivial⟩
    · refine we rfl qz rfl (qH qh (sp77 ls0.length c0 a0 (lcells ls0) qd (lcells_ones ls0)) rfl ?_);rintro _ _ ⟨a31,c31,rfl,rfl⟩;refine ⟨.inr qm,?_⟩;refine qO [7] qj rfl ⟨?_,trivial⟩;refine we rfl qz rfl (qS rfl (by first | decide | simp) (.one qg rfl .nil) fun b37=>?_);refine ⟨.inr qm,?_⟩;refine qO [8] qj rfl ⟨?_,trivial⟩;refine we rfl qz rfl (qH qh (sp78 b37 (⟨(graphB base rs).toArray⟩:ByteArray) qd) rfl ?_);rintro _ _ ⟨rfl,rfl⟩;refine ⟨.inr qm,?_⟩;refine qk 9 rfl (wy (.one qg rfl (.one qg rfl (.one qg rfl .nil)))) ?_;refine qO [10] qj rfl ⟨?_,trivial⟩;refine we rfl qz rfl (qS rfl (by first | decide | simp) (.agg rfl rfl .nil) fun b40=>?_);simp only [List.append_nil,List.cons_append,List.nil_append];refine ⟨.inr qm,?_⟩;refine qO [11] qj rfl ⟨?_,trivial⟩;refine we rfl qz rfl (wl qg qg qr rfl (by rfl) (by decide) (xc (k:=3) (ys:=(ll (z,rs.length,crc (graphB base rs)))) rfl) (onesK rfl) (fun _ _ _ h h'=>by cases h;omega) ?_);rintro _ _ _ a41 c41 ⟨⟩;refine ⟨.inr qm,?_⟩;refine qk 12 rfl (xh qg) ?_;refine qY qj ?_;refine yx _ ⟨_,_,⟨_,At.eq (.cons rfl (.cons rfl (.cons rfl (.cons rfl (.cons rfl (.cons rfl .nil))))))⟩,rfl⟩ (by rw [lcells_app,show lcells [(z,rs.length,crc (graphB base rs))]=ll (z,rs.length,crc (graphB base rs)) from rfl];repeat (first | exact .refl | exact .nil | apply Pm.cons | exact .here | apply Sel.there | apply Pm.drop))
    · refine we rfl qz rfl (qS rfl (by first | decide | simp) (.one qg rfl .nil) fun b37=>?_);refine ⟨.inr qm,?_⟩;refine qO [1] qj rfl ⟨?_,trivial⟩;refine we rfl qz rfl (qH qh (sp77 ls0.length c0 a0 (lcells ls0) qd (lcells_ones ls0)) rfl ?_);rintro _ _ ⟨a31,c31,rfl,rfl⟩;refine ⟨.inr qm,?_⟩;refine qO [8] qj rfl ⟨?_,trivial⟩;refine we rfl qz rfl (qH qh (sp78 b37 (⟨(graphB base rs).toArray⟩:ByteArray) qd) rfl ?_);rintro _ _ ⟨rfl,rfl⟩;refine ⟨.inr qm,?_⟩;refine qk 9 rfl (wy (.one qg rfl (.one qg rfl (.one qg rfl .nil)))) ?_;refine qO [10] qj rfl ⟨?_,trivial⟩;refine we rfl qz rfl (qS rfl (by first | decide | simp) (.agg rfl rfl .nil) fun b40=>?_);simp only [List.append_nil,List.cons_append,List.nil_append];refine ⟨.inr qm,?_⟩;refine qO [11] qj rfl ⟨?_,trivial⟩;refine we rfl qz rfl (wl qg qg qr rfl (by rfl) (by decide) (xc (k:=3) (ys:=(ll (z,rs.length,crc (graphB base rs)))) rfl) (onesK rfl) (fun _ _ _ h h'=>by cases h;omega) ?_);rintro _ _ _ a41 c41 ⟨⟩;refine ⟨.inr qm,?_⟩;refine qk 12 rfl (xh qg) ?_;refine qY qj ?_;refine yx _ ⟨_,_,⟨_,At.eq (.cons rfl (.cons rfl (.cons rfl (.cons rfl (.cons rfl (.cons rfl .nil))))))⟩,rfl⟩ (by rw [lcells_app,show lcells [(z,rs.length,crc (graphB base rs))]=ll (z,rs.length,crc (graphB base rs)) from rfl];repeat (first | exact .refl | exact .nil | apply Pm.cons | exact .here | apply Sel.there | apply Pm.drop))
  · rintro _ _ ⟨a41,c41,⟨v0,rfl⟩,rfl⟩;refine zT (s:=.slice a41 (ls0.length+1) c41) (E:=117) qr ?_;refine qw (qu (qe ?_));refine qC rfl (qH qh (sp79 (ls0.length+1) c41 a41 (links1 ls0 z base rs) (by simp) (H.goodL hz1 hz)) rfl ?_);rintro _ _ ⟨rfl,rfl⟩;refine qe ?_;refine qb (qP rfl) ?_;refine qb (qP rfl) ?_;refine qi ?_;refine qi ?_;refine qx (qv (qw (qw (qu (qe ?_)))));refine wq rfl (wB rfl rfl) (by simp) ?_;refine qx (qv (qB rfl ?_));refine qF (qv (qw (qw (qu (qe ?_)))));refine qe ?_;refine qe ?_;refine qC rfl (qH qh (sp81 z qd) rfl ?_);rintro _ _ ⟨rfl,rfl⟩;refine qC rfl (qH qh (sp80 x p bm t _ _ ((logN,ql,lb)::D2) graphT (gname z) (⟨(graphB base rs).toArray⟩:ByteArray) hnd qd qd qd H.none1 graphT_ok (gname_ok qd) (vj z).symm qd) rfl ?_);rintro _ _ ⟨q1,rfl,rfl⟩;rw [show (⟨(graphB base rs).toArray⟩:ByteArray).data.toList=graphB base rs from rfl];refine qi ?_;refine qx (qv (qw (qu (qe ?_))));refine xb rfl (wA rfl rfl) rfl ?_;refine qx (qv (qN rfl ?_));refine qw (qu (qe ?_));refine qe ?_;refine qC rfl (qH qh (sp80 x p bm (t+2+1) _ _ (laid1 ((logN,ql,lb)::D2) z q1 base rs) chainT chainN ⟨(chainB (links1 ls0 z base rs)).toArray⟩ (zP hnd) (by have:=laid1_len ((logN,ql,lb)::D2) z q1 base rs;omega) (by rw [jp,zi];have:=laid1_used ((logN,ql,lb)::D2) z q1 base rs;simp only [List.length_append,List.length_cons,List.length_nil];omega) qd (H.none2 hz) chainT_ok chainN_ok (by decide) (by rw [jp,zi];omega)) rfl ?_);rintro _ _ ⟨q2,rfl,rfl⟩;rw [show (⟨(chainB (links1 ls0 z base rs)).toArray⟩:ByteArray).data.toList=chainB (links1 ls0 z base rs) from rfl];refine qi ?_;refine qx (qv (qw (qu (qe ?_))));refine xb rfl (wA rfl rfl) rfl ?_;refine qx (qv (qN rfl ?_));refine qu (qe ?_);refine qb (qy rfl) ?_;refine qb (qE rfl) ?_;refine qb (qA rfl) ?_;refine qC rfl (qH qh (sp82 p bm _ _ (H.none3 hz)) rfl ?_);rintro _ _ ⟨rfl,rfl⟩;refine qi ?_;refine qx (qv (qw (qw (qu (qe ?_)))));refine wq rfl (wB rfl rfl) (by simp) ?_;refine qx (qv (qB rfl ?_));refine qF (qv ?_);refine wx_cutE (fun v L=>∃(a94:Option Addr) (c94:Nat),(∃v0,v=ups v0 [(0,ptr x),(1,.slice a41 (ls0.length+1) c41)])∧L=own (.slice a94 (gs0.length+1) c94) 110 6 (lyls gs0++lyl ⟨base,a,cap,rs⟩)::idh x p a41 (ls0.length+1) c41 a94 (gs0.length+1) c94::ldi a41 (ls0.length+1) c41 (links1 ls0 z base rs)::gpars gs0::pars (rowsOf gs0)::gdi a rs.length cap rs::pars rs::fsh p bm (t+2+1+2+1)::mpo bm (dm (laid2 ((logN,ql,lb)::D2) ls0 z q1 q2 base rs))::fls (laid2 ((logN,ql,lb)::D2) ls0 z q1 q2 base rs)::pw10::errG et ep::T) ?_ ?_
    · refine wg [] [pt b7 (cl (gl base a rs.length cap) 110)] mixed qm 14 rfl ?_;refine qk 0 rfl (qK qg) ?_;refine qk 1 rfl (qK qg) ?_;refine qk 2 rfl (qK qg) ?_;refine qk 3 rfl (qK qg) ?_;refine qk 5 rfl (wm rfl) ?_;refine qO [4,6] qj rfl ⟨?_,?_,trivial⟩
      · refine we rfl qz rfl (qH qh (sp84 gs0.length cg ag (lyls gs0) qd (lyls_ones gs0)) rfl ?_);rintro _ _ ⟨a91,c91,rfl,rfl⟩;refine ⟨.inr qm,?_⟩;refine qO [6] qj rfl ⟨?_,trivial⟩;refine we rfl qz rfl (qS rfl (by first | decide | simp) (.agg rfl rfl .nil) fun b93=>?_);simp only [List.append_nil,List.cons_append,List.nil_append];refine ⟨.inr qm,?_⟩;refine qO [7] qj rfl ⟨?_,trivial⟩;refine we rfl qz rfl (wl qg qg qr rfl (by rfl) (by decide) (xc (k:=6) (ys:=(gl base a rs.length cap)) rfl) (onesK rfl) (fun _ _ _ h h'=>by cases h;omega) ?_);rintro _ _ _ a94 c94 ⟨⟩;refine ⟨.inr qm,?_⟩;refine qk 8 rfl (qy rfl) ?_;refine qk 9 rfl (qE rfl) ?_;refine qO [10] qj rfl ⟨?_,trivial⟩;refine wn rfl qz (qV rfl qg rfl ?_);refine ⟨.inr qm,?_⟩;refine qk 11 rfl (qy rfl) ?_;refine qk 12 rfl (qE rfl) ?_;refine qO [13] qj rfl ⟨?_,trivial⟩;refine wn rfl qz (qV rfl qg rfl ?_);refine ⟨.inr qm,?_⟩;refine qY qj ?_;refine yx _ ⟨_,_,⟨_,At.eq (.cons rfl (.cons rfl .nil))⟩,rfl⟩ qh
      · refine we rfl qz rfl (qS rfl (by first | decide | simp) (.agg rfl rfl .nil) fun b93=>?_);simp only [List.append_nil,List.cons_append,List.nil_append];refine ⟨.inr qm,?_⟩;refine qO [4] qj rfl ⟨?_,trivial⟩;refine we rfl qz rfl (qH qh (sp84 gs0.length cg ag (lyls gs0) qd (lyls_ones gs0)) rfl ?_);rintro _ _ ⟨a91,c91,rfl,rfl⟩;refine ⟨.inr qm,?_⟩;refine qO [7] qj rfl ⟨?_,trivial⟩;refine we rfl qz rfl (wl qg qg qr rfl (by rfl) (by decide) (xc (k:=6) (ys:=(gl base a rs.length cap)) rfl) (onesK rfl) (fun _ _ _ h h'=>by cases h;omega) ?_);rintro _ _ _ a94 c94 ⟨⟩;refine ⟨.inr qm,?_⟩;refine qk 8 rfl (qy rfl) ?_;refine qk 9 rfl (qE rfl) ?_;refine qO [10] qj rfl ⟨?_,trivial⟩;refine wn rfl qz (qV rfl qg rfl ?_);refine ⟨.inr qm,?_⟩;refine qk 11 rfl (qy rfl) ?_;refine qk 12 rfl (qE rfl) ?_;refine qO [13] qj rfl ⟨?_,trivial⟩;refine wn rfl qz (qV rfl qg rfl ?_);refine ⟨.inr qm,?_⟩;refine qY qj ?_;refine yx _ ⟨_,_,⟨_,At.eq (.cons rfl (.cons rfl .nil))⟩,rfl⟩ qh
    · rintro _ _ ⟨a94,c94,⟨v0,rfl⟩,rfl⟩;have hD2l:1≤(laid2 ((logN,ql,lb)::D2) ls0 z q1 q2 base rs).length∧(laid2 ((logN,ql,lb)::D2) ls0 z q1 q2 base rs).length≤12:=by
        have h1:=laid2_len ((logN,ql,lb)::D2) ls0 z q1 q2 base rs;refine ⟨List.length_pos_of_mem ((jO hnd _).2 (.inl rfl)),by omega⟩
      have hD2n:=laid_nodup (ls0:=ls0) (z:=z) (q1:=q1) (q2:=q2) (base:=base) (rs:=rs) hnd;refine qw (qw (qu (qe ?_)));refine qb (qy rfl) ?_;refine qb (qE rfl) ?_;refine qb (qA rfl) ?_;refine qC rfl (qH qh (sp85 p bm _ (dm (laid2 ((logN,ql,lb)::D2) ls0 z q1 q2 base rs)) (by rw [List.length_map];exact hD2l.1) (by rw [List.length_map];exact hD2l.2)) rfl ?_);rintro _ _ ⟨an,nn,cn,ss,rfl,hss,hperm,rfl⟩;rw [dm_names] at hperm;have hnn:nn≤12:=by rw [←hss,hperm.length_eq,List.length_map];exact hD2l.2
      refine qb (qI rfl) ?_;refine qb wH ?_;refine qx (qv (qJ ?_));have e0:laid2 ((logN,ql,lb)::D2) ls0 z q1 q2 base rs=left (links1 ls0 z base rs) ss (laid2 ((logN,ql,lb)::D2) ls0 z q1 q2 base rs) 0:=(left_zero _ _ _).symm;rw [show mpo bm (dm (laid2 ((logN,ql,lb)::D2) ls0 z q1 q2 base rs))=mpo bm (dm (left (links1 ls0 z base rs) ss (laid2 ((logN,ql,lb)::D2) ls0 z q1 q2 base rs) 0)) by rw [←e0],show fls (laid2 ((logN,ql,lb)::D2) ls0 z q1 q2 base rs)=fls (left (links1 ls0 z base rs) ss (laid2 ((logN,ql,lb)::D2) ls0 z q1 q2 base rs) 0) by rw [←e0]];refine q7 (fun m v L=>∃(i t':Nat),nn-i=m∧(∃v0,v=ups v0 [(0,ptr x),(1,.slice a41 (ls0.length+1) c41),(103,.slice an nn cn),(104,.int .i64 nn),(105,.int .i64 i)])∧(i≤nn)∧(t'≤t+6+i)∧L=rds (.slice an nn cn) 1 (strs ss)::own (.slice a94 (gs0.length+1) c94) 110 6 (lyls gs0++lyl ⟨base,a,cap,rs⟩)::idh x p a41 (ls0.length+1) c41 a94 (gs0.length+1) c94::ldi a41 (ls0.length+1) c41 (links1 ls0 z base rs)::gpars gs0::pars (rowsOf gs0)::gdi a rs.length cap rs::pars rs::fsh p bm t'::mpo bm (dm (left (links1 ls0 z base rs) ss (laid2 ((logN,ql,lb)::D2) ls0 z q1 q2 base rs) i))::fls (left (links1 ls0 z base rs) ss (laid2 ((logN,ql,lb)::D2) ls0 z q1 q2 base rs) i)::pw10::errG et ep::T) _ _ ⟨0,t+2+1+2+1,rfl,⟨_,At.eq (.cons rfl (.cons rfl (.cons rfl (.cons rfl (.cons rfl .nil)))))⟩,by omega,by omega,rfl⟩ qh ?_;rintro m _ _ ⟨i,t',rfl,⟨v0,rfl⟩,hi,ht',rfl⟩;refine qw (qu ?_);refine wG rfl (wj rfl rfl) (fun h106=>?_) (fun h106=>?_)
      · refine wK (a:=an) (xs:=strs ss) qr (by rw [wI];omega) fun b off l E fz ha hl=>?_;subst ha;have hsm:(ss.getD i ⟨#[]⟩)∈ss:=w6 qd;have hsd:∃d∈laid2 ((logN,ql,lb)::D2) ls0 z q1 q2 base rs,d.1=(ss.getD i ⟨#[]⟩):=by
          obtain ⟨d,hd,e⟩:=List.mem_map.1 (hperm.mem_iff.1 hsm);exact ⟨d,hd,e⟩
        have hsk:(∃k,k<1000∧(ss.getD i ⟨#[]⟩)=gname k)∨Alien (ss.getD i ⟨#[]⟩):=by
          rcases H.name2 hz hsd with h | h | h
          · rw [h];exact .inr logN_alien
          · rw [h];exact .inr chainN_alien
          · exact .inl h
        refine qx (qv (qw (qN rfl ?_)));refine qF (qv (qw (qJ (qw (qu (qb (wz rfl rfl rfl qd) ?_))))));refine qb (q8 rfl ((hl _ (by rw [wI];omega)).trans (strs_at qd))) ?_;refine qi ?_;refine qx (qv (qw (qu (qe ?_))));refine qC rfl (qH qh (sp86c et ep (ss.getD i ⟨#[]⟩) hsk) rfl ?_);rintro _ _ ⟨k,g,rfl,hg1,hg2,rfl⟩;refine qe ?_;refine qb (qP rfl) ?_;refine qb (qP rfl) ?_;refine qC rfl (qZ fun b15=>?_);refine q6 (qV rfl qg rfl ?_);refine qi ?_;refine qx (qv (qw (qu (qe ?_))));refine wG rfl (qK qg) (fun h115=>?_) (fun h115=>?_)
        · obtain ⟨hsi,hk1⟩:=hg1 h115;refine qq (qK qg) ?_;refine qq (wv .nil (.cons qg .nil)) ?_;refine xr (qG rfl rfl rfl rfl) rfl (qH qh (sp87 (ls0.length+1) c41 a41 (links1 ls0 z base rs) (by simp) qd 88 [.pointer (some ⟨b15,0,none⟩)] (pt b15 (cl [.int .i64 k] 3)) (fun l=>decide (l.1=k)) (fun j _=>sp88 b15 k ((links1 ls0 z base rs).getD j dL))) rfl ?_);rintro _ _ ⟨rfl,rfl⟩;refine xO (qG rfl rfl rfl rfl) rfl (k5 rfl) (fun h119=>?_) (fun h119=>?_)
          · obtain ⟨q,hlook⟩:∃q,lookL (dm (left (links1 ls0 z base rs) ss (laid2 ((logN,ql,lb)::D2) ls0 z q1 q2 base rs) i)) (ss.getD i ⟨#[]⟩)=some (ptr q):=by
              obtain ⟨d,hd,e⟩:=hsd;have hnt:memB (ss.take i) d.1=false:=by
                rw [Bool.eq_false_iff];intro hb;rw [zQ,e] at hb;exact nodup_takeB (hperm.nodup_iff.2 hD2n) qd hb
              have hdl:d∈left (links1 ls0 z base rs) ss (laid2 ((logN,ql,lb)::D2) ls0 z q1 q2 base rs) i:=List.mem_filter.2 ⟨hd,by simp [hnt]⟩;exact ⟨d.2.1,by rw [←e];exact vf (hD2n.sublist (List.Sublist.map _ List.filter_sublist)) d hdl⟩
            refine qb (q9 rfl qg) ?_;refine qx (qv (qN rfl ?_));refine qu (qe ?_);refine qb (qy rfl) ?_;refine qb (qE rfl) ?_;refine qb (qA rfl) ?_;refine qe ?_;refine qC rfl (qH qh (sp83 p bm t' q qd (dm (left (links1 ls0 z base rs) ss (laid2 ((logN,ql,lb)::D2) ls0 z q1 q2 base rs) i)) (ss.getD i ⟨#[]⟩) hlook) rfl ?_);rintro _ _ ⟨rfl,rfl⟩;refine wE (fun w h=>sat_delD (s:=(ss.getD i ⟨#[]⟩)) (Pm.sat (L':=fls (left (links1 ls0 z base rs) ss (laid2 ((logN,ql,lb)::D2) ls0 z q1 q2 base rs) i)::_) (by repeat (first | with_reducible exact .refl | with_reducible exact .nil | with_reducible apply Pm.cons | with_reducible exact .here | with_reducible apply Sel.there | with_reducible apply Pm.drop)) w h)) ?_;refine qx (qX (qv (qu (qb (wa rfl rfl qd) ?_))));refine qe ?_;refine qx ?_;refine qT _ _ ⟨i+1,t'+1,rfl,⟨_,At.eq (.cons rfl (.cons rfl (.cons rfl (.cons rfl (.cons rfl .nil)))))⟩,by omega,by omega,rfl⟩ qd (by rw [left_drop hD2n qd (by rw [hsi,H.keep_g hz1 hz hk1];exact decide_eq_false h119),dm_delD];repeat (first | with_reducible exact .refl | with_reducible exact .nil | with_reducible apply Pm.cons | with_reducible exact .here | with_reducible apply Sel.there | with_reducible apply Pm.drop))
          · refine qb (q9 rfl qg) ?_;refine qx (qv (qB rfl ?_));refine qF (qX (qv (qu (qb (wa rfl rfl qd) ?_))));refine qe ?_;refine qx ?_;refine qT _ _ ⟨i+1,t',rfl,⟨_,At.eq (.cons rfl (.cons rfl (.cons rfl (.cons rfl (.cons rfl .nil)))))⟩,by omega,by omega,rfl⟩ qd (by rw [left_keep qd (by rw [hsi,H.keep_g hz1 hz hk1];exact decide_eq_true (Classical.not_not.1 h119))];repeat (first | with_reducible exact .refl | with_reducible exact .nil | with_reducible apply Pm.cons | with_reducible exact .here | with_reducible apply Sel.there | with_reducible apply Pm.drop))
        · refine qs (qs (qs (qs (qb (qW rfl qg) ?_))));refine qx (qv (qB rfl ?_));refine qF (qX (qv (qu (qb (wa rfl rfl qd) ?_))));refine qe ?_;refine qx ?_;refine qT _ _ ⟨i+1,t',rfl,⟨_,At.eq (.cons rfl (.cons rfl (.cons rfl (.cons rfl (.cons rfl .nil)))))⟩,by omega,by omega,rfl⟩ qd (by rw [left_keep qd (H.keep_alien hz hsd (hg2 (by simpa using h115)))];repeat (first | with_reducible exact .refl | with_reducible exact .nil | with_reducible apply Pm.cons | with_reducible exact .here | with_reducible apply Sel.there | with_reducible apply Pm.drop))
      · obtain rfl:i=nn:=by omega
        refine qx (qv (qw (qB rfl ?_)));refine wk ?_;refine qQ (qQ (ww ?_));refine qv (qw (qu (qo (qx (qv (qL ?_))))));refine qM rfl rfl (qD qg) _ ⟨z,q1,q2,t',_,rfl,hz1,hz,by omega,left_all hss hperm,rfl⟩ (fun w h=>?_);exact Pm.sat (by repeat (first | with_reducible exact .refl | with_reducible exact .nil | with_reducible apply Pm.cons | with_reducible exact .here | with_reducible apply Sel.there | with_reducible apply Pm.drop)) w (sat_lay (g:=⟨base,a,cap,rs⟩) (by simp) rfl (Pm.sat (L':=own (.slice a94 (gs0.length+1) c94) 110 6 (lyls gs0++lyl ⟨base,a,cap,rs⟩)::idh x p a41 (ls0.length+1) c41 a94 (gs0.length+1) c94::ldi a41 (ls0.length+1) c41 (links1 ls0 z base rs)::gpars gs0::pars (rowsOf gs0)::gdi a rs.length cap rs::pars rs::_) (by repeat (first | with_reducible exact .refl | with_reducible exact .nil | with_reducible apply Pm.cons | with_reducible exact .here | with_reducible apply Sel.there | with_reducible apply Pm.drop)) w h))
end
section
open Go
set_option maxRecDepth 4000
structure LayFiles (D2:List Fd) (ls0:List Lk) (gs0:List Ly):Prop where
  file:∀k,k<ls0.length→∃q,(gname (ls0.getD k dL).1,q,graphB (gs0.getD k dLy).base (gs0.getD k dLy).rs)∈D2
  sum:∀k,k<gs0.length→(ls0.getD k dL).2.2=crc (graphB (gs0.getD k dLy).base (gs0.getD k dLy).rs)
  good:∀k,k<gs0.length→GoodG (gs0.getD k dLy).base (gs0.getD k dLy).rs
theorem zI {n k:Nat} (h:k<n+1):k<n∨k=n:=by omega
theorem lays_snoc {ls0:List Lk} {gs0:List Ly} {l:Lk} {g:Ly} (H:LaysOk ls0 gs0) (hb:g.base=(rowsOf gs0).length) (hc:l.2.1=g.rs.length) (hf:ls0.length≤7) (ha:(rowsOf gs0).length+g.rs.length≤1000):LaysOk (ls0++[l]) (gs0++[g]) where
  len:=by simp [H.len]
  base k hk:=by
    rw [List.length_append] at hk;rcases zI hk with h | rfl
    · rw [xg h,List.take_append_of_le_length qd];exact H.base k h
    · rw [xK,List.take_left' rfl];exact hb
  cnt k hk:=by
    have hl:=H.len;rw [List.length_append] at hk;rcases zI hk with h | rfl
    · rw [xg h,xg qd];exact H.cnt k h
    · rw [xK,hl,xK];exact hc
  few:=by simp;omega
  all:=by rw [jt,List.length_append];exact ha
theorem lay_xok {D2:List Fd} {lb:List UInt8} {ls ls0:List Lk} {gs gs0:List Ly} {zb base ql z q1 q2 cap:Nat} {a:Option Addr} {rs:List Rw} (H:LayOk D2 lb ls ls0 gs gs0 zb base rs) (F:LayFiles D2 ls0 gs0) (hz1:∀l∈ls,l.1<z) (hz:z≤zb) :
    ∃D3,(laid2 ((logN,ql,lb)::D2) ls0 z q1 q2 base rs).filter (fun d=>keepB (links1 ls0 z base rs) d.1)=(logN,ql,lb)::D3∧XOk D3 (links1 ls0 z base rs) (gs0++[⟨base,a,cap,rs⟩]):=by
  have hzb:=H.zb;have hgl:=H.lays.len;have hn:=H.nodup (ql:=ql);have e1:laid2 ((logN,ql,lb)::D2) ls0 z q1 q2 base rs=(logN,ql,lb)::putD (putD D2 (gname z) q1 (graphB base rs)) chainN q2 (chainB (links1 ls0 z base rs)):=by
    rw [laid2,laid1,putD,if_neg (jy z),putD,if_neg (show chainN≠logN by decide)]
  refine ⟨(putD (putD D2 (gname z) q1 (graphB base rs)) chainN q2 (chainB (links1 ls0 z base rs))).filter fun d=>keepB (links1 ls0 z base rs) d.1,?_,?_⟩
  · rw [e1,List.filter_cons,H.keep_log];rfl
  have hL:=laid_nodup (ls0:=ls0) (z:=z) (q1:=q1) (q2:=q2) (base:=base) (rs:=rs) hn;rw [e1,List.map_cons,List.nodup_cons] at hL
  generalize hM:putD (putD D2 (gname z) q1 (graphB base rs)) chainN q2 (chainB (links1 ls0 z base rs))=M at *
  have mem:∀d:Fd,d.1≠logN→d∈laid2 ((logN,ql,lb)::D2) ls0 z q1 q2 base rs→keepB (links1 ls0 z base rs) d.1=true→d∈M.filter fun d=>keepB (links1 ls0 z base rs) d.1:=fun d h1 h2 h3=>by
    rw [e1] at h2;rcases List.mem_cons.1 h2 with h | h
    · exact absurd (by rw [h]) h1
    · exact List.mem_filter.2 ⟨h,h3⟩
  have hin:∀l∈links1 ls0 z base rs,keepB (links1 ls0 z base rs) (gname l.1)=true:=fun l hl=>by
    have hl2:l.1<1000:=by
      rcases List.mem_append.1 hl with h | h
      · have:=hz1 l (H.sub l h);omega
      · rw [List.mem_singleton.1 h];show z<_;omega
    rw [H.keep_g hz1 hz hl2,decide_eq_true_eq];exact ⟨l,hl,by simp⟩
  refine ⟨lays_snoc H.lays H.base_ rfl H.few H.all,H.goodL hz1 hz,fun l hl=>?_,fun k hk=>?_,fun k hk=>?_,?_⟩
  · rcases List.mem_append.1 hl with h | h
    · have:=hz1 l (H.sub l h);omega
    · rw [List.mem_singleton.1 h];show z<_;omega
  · rw [List.length_append] at hk;rcases zI hk with h | rfl
    · rw [xg h];exact F.good k h
    · rw [xK];exact H.good
  · rw [List.length_append] at hk;rcases zI hk with h | rfl
    · rw [xg h,xg qd];exact F.sum k h
    · rw [xK,hgl,xK]
  refine ⟨?_,fun d hd=>?_,fun d hd=>?_,fun h=>by simp [links1] at h,fun _=>⟨q2,?_⟩,fun k hk=>?_⟩
  · rw [List.nodup_cons];refine ⟨fun h=>hL.1 ?_,hL.2.sublist (List.Sublist.map _ List.filter_sublist)⟩;obtain ⟨d,hd,e⟩:=List.mem_map.1 h;exact List.mem_map.2 ⟨d,(List.mem_filter.1 hd).1,e⟩
  · have h1:=List.mem_filter.1 hd;have h2:=h1.2;simp only [keepB,Bool.or_eq_true,decide_eq_true_eq,List.any_eq_true] at h2;rcases h2 with (h2 | h2) | ⟨l,hl,h2⟩
    · exact absurd (List.mem_map.2 ⟨d,h1.1,h2⟩) hL.1
    · exact .inl h2
    · exact .inr ⟨l,hl,h2.symm⟩
  · have h1:=(List.mem_filter.1 hd).1;have h2:d∈laid2 ((logN,ql,lb)::D2) ls0 z q1 q2 base rs:=by rw [e1];exact List.mem_cons_of_mem _ h1
    rw [jO hn] at h2;rcases h2 with rfl | ⟨rfl | ⟨h3,_⟩,_⟩
    · show (chainB (links1 ls0 z base rs)).length≤100000;have:=H.few;rw [zi];simp;omega
    · exact (graphB_le H.good).2
    · rcases List.mem_cons.1 h3 with rfl | h3
      · exact absurd (List.mem_map.2 ⟨_,h1,rfl⟩) hL.1
      · exact H.x.disk.size d h3
  · exact mem _ (show chainN≠logN by decide) ((jO hn _).2 (.inl rfl)) (by simp [keepB])
  · rw [List.length_append] at hk;rcases zI hk with h | rfl
    · obtain ⟨q,hq⟩:=F.file k h;have hm:ls0.getD k dL∈ls0:=w6 h;refine ⟨q,?_⟩;rw [xg h,xg qd];have hlz:=hz1 _ (H.sub _ hm);refine mem _ (jy _) ((jO hn _).2 (.inr ⟨.inr ⟨List.mem_cons_of_mem _ hq,fun e=>?_⟩,jz _⟩)) (hin _ (List.mem_append_left _ hm));have:=gname_inj qd qd e;omega
    · refine ⟨q1,?_⟩;rw [xK,←hgl,xK];exact mem _ (jy _) ((jO hn _).2 (.inr ⟨.inl rfl,jz _⟩)) (hin _ (List.mem_append_right _ (List.mem_singleton.2 rfl)))
theorem RowsFit.app {cs:List Cm} {r0 rs:List Rw} (h0:RowsFit cs [] r0) (h:RowsFit cs (r0.map (·.gen)) rs) (hup:∀k,k<cs.length→∀x∈(cs.getD k dCm).ps,x<k):RowsFit cs [] (r0++rs):=by
  have hl:(r0.map (·.gen)).length=r0.length:=by simp
  have hlen:=h.len;rw [hl] at hlen;have key:∀ {p:Nat→Rw→Prop},(∀j,j<r0.length→p j (r0.getD j dR))→(∀j,j<rs.length→p (r0.length+j) (rs.getD j dR))→∀j,j<(r0++rs).length→p j ((r0++rs).getD j dR):=fun {p} h1 h2 j hj=>by
    by_cases e:j<r0.length
    · rw [xg e];exact h1 j e
    · rw [List.length_append] at hj;have h3:=h2 (j-r0.length) qd;rw [show r0.length+(j-r0.length)=j by omega] at h3;rw [List.getD_eq_getElem?_getD,List.getElem?_append_right qd,←List.getD_eq_getElem?_getD];exact h3
  refine ⟨by simp;omega,key (p:=fun j q=>q.ps=(cs.getD ([].length+j) dCm).ps) h0.ps ?_,key (p:=fun j q=>q.tree=(cs.getD ([].length+j) dCm).tree) h0.tree ?_,key (p:=fun _ q=>GoodF q.fk q.fb) h0.fil h.fil,
    key (p:=fun j q=>1≤q.gen∧q.gen≤[].length+j+1) h0.gen ?_,key (p:=fun j q=>∀x∈q.ps,([]++(r0++rs).map Rw.gen).getD x 0<q.gen) ?_ ?_⟩
  · intro j hj;have:=h.ps j hj;rw [hl] at this;rw [this];simp
  · intro j hj;have:=h.tree j hj;rw [hl] at this;rw [this];simp
  · intro j hj;have:=h.gen j hj;rw [hl] at this;simp only [List.length_nil];omega
  · intro j hj x hx;have hx2:x∈(cs.getD j dCm).ps:=by have:=h0.ps j hj;rw [List.length_nil,Nat.zero_add] at this;rw [←this];exact hx
    have hxj:=hup j qd x hx2;have:=h0.lt j hj x hx;rw [List.nil_append] at this ⊢;rw [List.map_append,xg (by simp;omega)];exact this
  · intro j hj x hx;have:=h.lt j hj x hx
    rwa [List.nil_append,List.map_append]
theorem RowsFit.good {ts:List Tr} {cs:List Cm} {ks:List Nat} {rs:List Rw} {base:Nat} (h:RowsFit cs ks rs) (S:StoOk ts cs) (hb:base=ks.length):GoodG base rs:=by
  subst hb;have hl:=h.len;have hc:=S.lc;have ht:=S.lt;refine ⟨by omega,fun k hk=>?_⟩;have hk2:ks.length+k<cs.length:=by omega
  have hp:=h.ps k hk;have hg:=h.gen k hk;refine ⟨by rw [hp];exact S.len _ hk2,by rw [h.tree k hk];have:=S.has _ hk2;omega,by omega,by rw [hp];exact S.up _ hk2,by rw [hp];exact S.nodup _ hk2,h.fil k hk⟩
end
section
open Go
set_option maxRecDepth 4000
theorem lays_nil:LaysOk [] []:=⟨rfl,fun k hk=>by simp at hk,fun k hk=>by simp at hk,by simp,by simp [rowsOf]⟩
theorem goodL_nil:GoodL []:=⟨by simp,by simp,by simp,by simp,by simp,by simp [tot]⟩
theorem files_nil (D2:List Fd):LayFiles D2 [] []:=⟨fun k hk=>by simp at hk,fun k hk=>by simp at hk,fun k hk=>by simp at hk⟩
structure UpOk (D2:List Fd) (lb:List UInt8) (ts:List Tr) (cs:List Cm) (ls:List Lk) (gs:List Ly) (zb:Nat):Prop where
  x:XOk D2 ls gs
  s:StoOk ts cs
  fit:RowsFit cs [] (rowsOf gs)
  num:∀l∈ls,l.1<zb
  zb:zb≤880
  log:lb.length≤4000000
  cs:cs.length≤900
section
variable {D2 D3:List Fd} {lb:List UInt8} {ts:List Tr} {cs:List Cm} {ls:List Lk} {gs:List Ly} {zb z cap:Nat} {a:Option Addr} {rs:List Rw} (U:UpOk D2 lb ts cs ls gs zb)
include U
theorem UpOk.le:(rowsOf gs).length≤cs.length:=by have:=U.fit.len;simpa using this
theorem UpOk.compact (h:RowsFit cs [] rs) (hn:rs.length=cs.length) (h1:1≤cs.length):LayOk D2 lb ls [] gs [] zb 0 rs :=
  ⟨U.x,lays_nil,by simp,goodL_nil,h.good U.s rfl,rfl,by simp,by have:=U.cs;simp [rowsOf];omega,by omega,U.num,by have:=U.zb;omega,U.log⟩
theorem UpOk.gens:∀k,k<(rowsOf gs).length→1≤((rowsOf gs).map Rw.gen).getD k 0∧((rowsOf gs).map Rw.gen).getD k 0≤k+1:=fun k hk=>by
  have:=U.fit.gen k hk;have e:((rowsOf gs).map Rw.gen).getD k 0=((rowsOf gs).getD k dR).gen:=by simp [hk]
  rw [e];simpa using this
theorem UpOk.update (h:RowsFit cs ((rowsOf gs).map Rw.gen) rs) (hn:(rowsOf gs).length+rs.length=cs.length) (h1:(rowsOf gs).length<cs.length) (hl:ls.length≤7):LayOk D2 lb ls ls gs gs zb (rowsOf gs).length rs :=
  ⟨U.x,U.x.lays,fun _ h=>h,U.x.links,h.good U.s (by simp),rfl,hl,by have:=U.cs;omega,by omega,U.num,by have:=U.zb;omega,U.log⟩
theorem UpOk.files:LayFiles D2 ls gs:=⟨U.x.disk.file,U.x.sum,U.x.good⟩
theorem UpOk.done {gs2:List Ly} {ls0:List Lk} {base:Nat} (hs:∀l∈ls0,l∈ls) (hz:z≤zb) (hx:XOk D3 (links1 ls0 z base rs) gs2) (hf:RowsFit cs [] (rowsOf gs2)) (hzb:zb≤879):UpOk D3 lb ts cs (links1 ls0 z base rs) gs2 (zb+1) :=
  ⟨hx,U.s,hf,fun l hl=>by
    rcases List.mem_append.1 hl with h | h
    · have:=U.num l (hs l h);omega
    · rw [List.mem_singleton.1 h];show z<_;omega,by omega,U.log,U.cs⟩
end
theorem sp25 (x p q bm t ql zb:Nat) (lb:List UInt8) (D2:List Fd) (ts:List Tr) (cs:List Cm) (ls:List Lk) (gs:List Ly) (et:TypeId) (ep:Value) (U:UpOk D2 lb ts cs ls gs zb) (hzb:zb≤879) (ht:t≤800000):Spec Tryz.prog 25 #[ptr x,.iface 65 (ptr q),setV]
    (fun T=>idx x p ls gs::sto q p ts cs::fsh p bm (t)::mpo bm (dm (((logN,ql,lb)::D2)))::fls (((logN,ql,lb)::D2))::pw10::errG et ep::T) (fun r T L=>∃ls2 gs2 D3 t3 zb2,r=.int .i64 0∧UpOk D3 lb ts cs ls2 gs2 zb2∧zb2≤zb+1∧t3≤t+20∧L=idx x p ls2 gs2::sto q p ts cs::fsh p bm (t3)::mpo bm (dm ((logN,ql,lb)::D3))::fls ((logN,ql,lb)::D3)::pw10::errG et ep::T):=by
  refine spec_of (n:=27) (args:=[ptr x,.iface 65 (ptr q),setV]) Tryz.func25 rfl rfl rfl rfl fun T=>?_;have hle:=U.le;have hcs:=U.cs;have hfew:=U.x.lays.few;have htot:=U.x.lays.tot;have hall:=U.x.lays.all;have hgl:=U.x.lays.len;refine qw (qu ?_);refine qC rfl (wx rfl fun b5=>?_);refine qo (qx (qv (qw (qw (qu (qe ?_))))));refine qe ?_;refine qb (wm rfl) ?_;refine qC rfl (qH qh (sp41 q p ts cs x ls gs U.x.lays hle) rfl ?_);rintro _ _ ⟨rfl,rfl⟩;refine qi ?_;refine qx (qv (qw (qu (qe ?_))));refine wq rfl (wB rfl rfl) (by simp) ?_;refine qe ?_;refine qq (qK qg) ?_;refine xr (qG rfl rfl rfl rfl) rfl (xA qh (sp28s q p ts cs) rfl rfl ?_);rintro _ _ ⟨rfl,rfl⟩;refine xO (qG rfl rfl rfl rfl) rfl (wA rfl rfl) (fun h17=>?_) (fun h17=>?_)
  · have hc0:cs.length=0:=by omega
    refine qb (qW rfl qg) ?_;refine qx (qv (qN rfl ?_));refine qw (qu (qe ?_));refine qi ?_;refine qx (qv (qL ?_));refine wt ?_;refine qM rfl rfl (qD qg) _ ⟨ls,gs,D2,t,zb,rfl,U,by omega,by omega,rfl⟩ qm
  · refine qb (qW rfl qg) ?_;refine qx (qv (qB rfl ?_));refine qF (qv (qw (wx_idx (x:=x) qr fun la lc ga gc=>?_)));refine wg [] [pt b5 (cl setL 69)] mixed qm 8 rfl ?_;refine qk 0 rfl (qK qg) ?_;refine qk 1 rfl (wm rfl) ?_;refine qk 2 rfl (qK qg) ?_;refine qk 3 rfl (wm rfl) ?_;refine qO [4] qj rfl ⟨?_,trivial⟩;refine wo_ent (fun w h=>(xR (a:=none) (cap:=0) (k:=1)).sat h) ?_;refine we rfl qz rfl (qH qh (sp44 q p ts cs U.s hcs 0 0 none [] rfl qd (fun k hk=>by omega)) rfl ?_);rintro _ _ ⟨a,cap,rs,rfl,hfit,hrn,rfl⟩;have hrn2:rs.length=cs.length:=by omega
    have HL:=U.compact hfit hrn2 qd;refine ⟨.inr qm,?_⟩;refine qk 5 rfl (wy (.agg rfl rfl (.one qg rfl .nil))) ?_;refine qO [6] qj rfl ⟨?_,trivial⟩;refine wo_ent (fun w h=>(xR (a:=none) (cap:=0) (k:=3)).sat ((xR (a:=none) (cap:=0) (k:=6)).sat (yQ ((wi (L:=[])).sat h)))) ?_;refine we rfl qz rfl (qH qh (sp43 x p bm t ql zb lb D2 ls [] gs [] et ep 0 cap 0 0 lc gs.length gc a none none la ga rs HL ht) rfl ?_);rintro _ _ ⟨z,q1,q2,t3,D3,rfl,hz1,hz2,ht3,hD3,rfl⟩;subst hD3;obtain ⟨D3,hD3,hX⟩:=lay_xok (ql:=ql) (q1:=q1) (q2:=q2) (cap:=cap) (a:=a) HL (files_nil D2) hz1 hz2;rw [hD3];refine ⟨.inr qm,?_⟩;refine qk 7 rfl (xh qg) ?_;refine qY qj ?_;refine qv (qL ?_);refine qM rfl rfl (qD qg) _ ⟨_,_,D3,_,zb+1,rfl,U.done (by simp) hz2 hX (by rw [show rowsOf ([]++[(⟨0,a,cap,rs⟩:Ly)])=rs by simp [rowsOf]];exact hfit) hzb,by omega,ht3,rfl⟩ qm
theorem sp22 (x p q bm t ql zb:Nat) (lb:List UInt8) (D2:List Fd) (ts:List Tr) (cs:List Cm) (ls:List Lk) (gs:List Ly) (et:TypeId) (ep:Value) (U:UpOk D2 lb ts cs ls gs zb) (hzb:zb≤879) (ht:t≤800000):Spec Tryz.prog 22 #[ptr x,.iface 65 (ptr q),setV]
    (fun T=>idx x p ls gs::sto q p ts cs::fsh p bm (t)::mpo bm (dm (((logN,ql,lb)::D2)))::fls (((logN,ql,lb)::D2))::pw10::errG et ep::T) (fun r T L=>∃ls2 gs2 D3 t3 zb2,r=.int .i64 0∧UpOk D3 lb ts cs ls2 gs2 zb2∧zb2≤zb+1∧t3≤t+20∧L=idx x p ls2 gs2::sto q p ts cs::fsh p bm (t3)::mpo bm (dm ((logN,ql,lb)::D3))::fls ((logN,ql,lb)::D3)::pw10::errG et ep::T):=by
  refine spec_of (n:=51) (args:=[ptr x,.iface 65 (ptr q),setV]) Tryz.func22 rfl rfl rfl rfl fun T=>?_;have hle:=U.le;have hcs:=U.cs;have hfew:=U.x.lays.few;have htot:=U.x.lays.tot;have hall:=U.x.lays.all;have hgl:=U.x.lays.len;refine qw (qu ?_);refine qC rfl (wx rfl fun b5=>?_);refine qo (qx (qv (qw (qw (qu (qe ?_))))));refine qe ?_;refine qb (wm rfl) ?_;refine qC rfl (qH qh (sp41 q p ts cs x ls gs U.x.lays hle) rfl ?_);rintro _ _ ⟨rfl,rfl⟩;refine qi ?_;refine qx (qv (qw (qu (qe ?_))));refine wq rfl (wB rfl rfl) (by simp) ?_;refine qe ?_;refine qq (qK qg) ?_;refine xr (qG rfl rfl rfl rfl) rfl (xA qh (sp28s q p ts cs) rfl rfl ?_);rintro _ _ ⟨rfl,rfl⟩;refine qq (qK qg) ?_;refine xr (qG rfl rfl rfl rfl) rfl (qH qh (sp42s x p ls gs U.x.lays) rfl ?_);rintro _ _ ⟨rfl,rfl⟩;refine xO (qG rfl rfl rfl rfl) rfl (wA rfl rfl) (fun h19=>?_) (fun h19=>?_)
  · refine qb (qW rfl qg) ?_;refine qx (qv (qN rfl ?_));refine qw (qu (qe ?_));refine qi ?_;refine qx (qv (qL ?_));refine wt ?_;refine qM rfl rfl (qD qg) _ ⟨ls,gs,D2,t,zb,rfl,U,by omega,by omega,rfl⟩ qm
  · refine qb (qW rfl qg) ?_;refine qx (qv (qB rfl ?_));refine qF (qv (qw (qw (wx_idx (x:=x) qr fun la lc ga gc=>?_))));refine qu (qe ?_);refine qb (qy rfl) ?_;refine qb (qE rfl) ?_;refine qb (qA rfl) ?_;refine qb (qI rfl) ?_;refine wG rfl (w9 rfl rfl) (fun h27=>?_) (fun h27=>?_)
    · refine qx (qv (qN rfl ?_));refine qw (w8 (fun w h=>js (x:=x) (p:=p) rfl rfl (Pm.sat (by repeat (first | with_reducible exact .refl | with_reducible exact .nil | with_reducible apply Pm.cons | with_reducible exact .here | with_reducible apply Sel.there | with_reducible apply Pm.drop)) w h)) ?_);refine qu (qe ?_);refine qe ?_;refine qb (wm rfl) ?_;refine qC rfl (qH qh (sp25 x p q bm t ql zb lb D2 ts cs ls gs et ep U hzb ht) rfl ?_);rintro _ _ ⟨ls2,gs2,D3,t3,zb2,rfl,hU,hz2,ht3,rfl⟩;refine qi ?_;refine qx (qv (qL ?_));refine wt ?_;refine qM rfl rfl (qD qg) _ ⟨ls2,gs2,D3,t3,zb2,rfl,hU,hz2,ht3,rfl⟩ qm
    · refine qx (qv (qB rfl ?_));refine qF (qv (qw (wg [18] [idh x p la ls.length lc ga gs.length gc,pt b5 (cl setL 69)] mixed qm 20 rfl ?_)));refine qk 0 rfl (qK qg) ?_;refine qk 1 rfl (qK qg) ?_;refine qk 2 rfl (qy rfl) ?_;refine qk 3 rfl (qE rfl) ?_;refine qk 4 rfl (qA rfl) ?_;refine qk 5 rfl (qK qg) ?_;refine qk 6 rfl (qy rfl) ?_;refine qk 7 rfl (qE rfl) ?_;refine qk 8 rfl (qA rfl) ?_;refine qk 9 rfl (qK qg) ?_;refine qk 11 rfl (wm rfl) ?_;refine qk 12 rfl (qK qg) ?_;refine qk 13 rfl (wm rfl) ?_;refine qk 14 rfl (qK qg) ?_;refine qO [10] qj rfl ⟨?_,trivial⟩;refine we rfl qz rfl (qH qh (sp42 x p _ _ _ _ _ ls qd qd) rfl ?_);rintro _ _ ⟨rfl,rfl⟩;rw [htot];refine ⟨.inr qm,?_⟩;refine qO [15] qj rfl ⟨?_,trivial⟩;refine we rfl qz rfl (qH qh (sp45 x p ls gs U.x.lays la ga lc gc) rfl ?_);rintro _ _ ⟨ak,ck,rfl,rfl⟩;refine ⟨.inr qm,?_⟩;refine qO [16] qj rfl ⟨?_,trivial⟩;refine we rfl qz rfl (qH qh (sp44 q p ts cs U.s hcs (rowsOf gs).length ck ak ((rowsOf gs).map (·.gen)) (by simp) hle U.gens) rfl ?_);rintro _ _ ⟨a,cap,rs,rfl,hfit,hrn,rfl⟩;have HL:=U.update hfit hrn qd qd;refine ⟨.inr qm,?_⟩;refine qk 17 rfl (wy (.one qg rfl (.agg rfl rfl (.one qg rfl .nil)))) ?_;refine qO [18] qj rfl ⟨?_,trivial⟩;refine wo_ent (fun w h=>xM (s:=.slice la ls.length lc) (k:=3) (xs:=lcells ls) qr h) ?_;refine we rfl qz rfl (qH qh (sp43 x p bm t ql zb lb D2 ls ls gs gs et ep (rowsOf gs).length cap lc gc lc gs.length gc a la ga la ga rs HL ht) rfl ?_);rintro _ _ ⟨z,q1,q2,t3,D3,rfl,hz1,hz2,ht3,hD3,rfl⟩;subst hD3;obtain ⟨D3,hD3,hX⟩:=lay_xok (ql:=ql) (q1:=q1) (q2:=q2) (cap:=cap) (a:=a) HL U.files hz1 hz2;rw [hD3];refine ⟨.inl qj,?_⟩;refine qO [19] qj rfl ⟨?_,trivial⟩;refine we rfl qz rfl ((xh qg).ow ?_);refine ⟨.inl qj,?_⟩;refine qY qj ?_;refine qv (qL ?_);refine qM rfl rfl (qD qg) _ ⟨_,_,D3,_,zb+1,rfl,U.done (fun _ h=>h) hz2 hX (by rw [jt];exact U.fit.app hfit U.s.up) hzb,by omega,ht3,rfl⟩ qm
end
section
open Go
section
variable {P:Program} {ops:Array Oper}
theorem lateS_set {late:List Nat} {S0:World→Prop} {listed:Array Bool} {i:Nat} {w:World} (h:lateS late S0 listed w):lateS late S0 (listed.setIfInBounds i true) w:=by
  rcases h with h | h
  · left;simp only [lateFlag,List.any_eq_true] at h ⊢;obtain ⟨k,hk,hl⟩:=h;exact ⟨k,hk,getD_set_true hl⟩
  · exact .inr h
theorem wpAnyS_pure {Q:Ky} {late:List Nat} {S0:World→Prop} {i:Nat} {oi:Oper} {v:Value} (hi:ops[i]?=some oi)
    (hsel:∀(j:Nat) (o:Oper) cs b,ops[j]?=some o→o.op≠.select cs b) (hil:∀k∈late,k≠i) :
    ∀(fuel:Nat) (listed:Array Bool) (a:Act) (w:World),
      (∀j oj,ops[j]?=some oj→j≠i→listed.getD j true=false→(∀e∈oj.after,Region.binds .any e=true→e.on≠i)→oi.apart ops oj=true) →
      i∈Region.ready .any ops listed→YieldsIf P ops (fun _=>True) oi v a→lateS late S0 listed w →
      wpAnyS P ops Q (lateS late S0) fuel (listed.setIfInBounds i true) (a.put oi.dst v) w→wpAnyS P ops Q (lateS late S0) (fuel+1) listed a w:=by
  intro fuel
  induction fuel with
  | zero =>
    intro listed a w _ hr hy hS H;refine ⟨fun h=>(by rw [h] at hr;cases hr),fun j hj=>?_⟩
    by_cases hji:j=i
    · subst hji;exact hy.wpOp hi trivial ⟨lateS_set hS,H⟩
    · have:=ready_mono hj hji;rw [H.1] at this;cases this
  | succ fuel ih =>
    intro listed a w hfree hr hy hS H;refine ⟨fun h=>(by rw [h] at hr;cases hr),fun j hj=>?_⟩
    by_cases hji:j=i
    · subst hji;exact hy.wpOp hi trivial ⟨lateS_set hS,H⟩
    · have h1:=H.2 j (ready_mono hj hji);obtain ⟨hjun,oj,hoj,hall⟩:=mem_ready.1 hj;have hnot:∀e∈oj.after,Region.binds .any e=true→e.on≠i:=fun e he hb heq=>by
        have h1:=hall e he hb;have h0:=(mem_ready.1 hr).1;rw [heq] at h1;rcases Nat.lt_or_ge i listed.size with h' | h'
        · simp [h'] at h0 h1;rw [h0] at h1;cases h1
        · simp [Array.getElem?_eq_none h'] at h1
      have h2:=wpOp_putIf hoj (hfree j oj hoj hji hjun hnot) (fun cs b=>hsel i oi cs b hi) (fun cs b=>hsel j oj cs b hoj) (fun _ _ _ h=>h.elim) hy h1;have hfree':∀k ok,ops[k]?=some ok→k≠i→(listed.setIfInBounds j true).getD k true=false →
          (∀e∈ok.after,Region.binds .any e=true→e.on≠i)→oi.apart ops ok=true:=fun k ok hk hki hun hno=>by
        refine hfree k ok hk hki ?_ hno
        by_cases hjk:j=k
        · subst hjk;exact hjun
        · rw [getD_set_ne true hjk] at hun;exact hun
      refine wpOp_mono (fun a' w' h3=>?_) h2;obtain ⟨hy',hS',hrest⟩:=h3;have hi':=ready_mono hr (Ne.symm hji);have hSj:lateS late S0 (listed.setIfInBounds j true) w':=by
        rcases hS' with hl | h0
        · left;simp only [lateFlag,List.any_eq_true] at hl ⊢;obtain ⟨k,hk,hlk⟩:=hl;refine ⟨k,hk,?_⟩;rw [Array.setIfInBounds_comm _ _ (Ne.symm hji)] at hlk
          rwa [getD_set_ne false (Ne.symm (hil k hk))] at hlk
        · exact .inr h0
      refine ⟨hSj,ih (listed.setIfInBounds j true) a' w' hfree' hi' hy' hSj ?_⟩;rw [Array.setIfInBounds_comm _ _ hji];exact hrest
end
theorem sat_nil (w:World):Sat [] w:=by
  refine ⟨⟨fun _=>none,w.os,w.output⟩,fun _=>none,⟨?_,rfl,rfl⟩,?_,fun _=>Or.inl rfl,trivial⟩
  · intro _ _ h;cases h
  · intro _ _ h;cases h
def pureOk (ops:List Oper) (late:List Nat) (listed:Array Bool) (i:Nat):Bool :=
  Region.noSelect ops.toArray&&Region.free .any ops.toArray listed i&&(Region.ready .any ops.toArray listed).contains i&&late.all fun k=>!Nat.beq k i
section
variable {P:Program} {n:Nat} {ds:List Deferred} {ops:List Oper} {Q:Ky} {late:List Nat} {L0:List HProp} {v:Env} {L:List HProp} {fuel:Nat} {listed:Array Bool} {op:Op} {ty:TypeId} {pos:String} {af:Array Edge} {gd:Option (Nat×Bool)}
theorem yN (i:Nat) {d:Nat} {r:Value} (ho:opAt ops i=some ⟨some d,op,ty,pos,af,gd⟩) (hw:Wants n ds ops.toArray v gd true) (hd:Nat.blt d n=true) (hk:pureOk ops late listed i=true)
    (hq:Qt P op ty v [] r) (h:wda P n ds ops Q late L0 fuel (listed.setIfInBounds i true) (up v d r) L):wda P n ds ops Q late L0 (fuel+1) listed v L:=by
  rw [j5] at ho;simp only [pureOk,Bool.and_eq_true] at hk;obtain ⟨⟨⟨h1,h2⟩,h3⟩,h4⟩:=hk;have hr:i∈Region.ready .any ops.toArray listed:=by simpa using h3
  have hil:∀k∈late,k≠i:=fun k hk e=>by
    have:=(List.all_eq_true.1 h4) k hk;subst e;simp at this
  intro a w ha hw2 hS hdown;refine wpAnyS_pure ho (Region.noSelect_spec h1) hil fuel listed a w (Region.free_spec ho h2) hr (.inl ⟨hw a _ _ _ _ _ ha,fun w _=>by rw [ha.eval];exact hq _ _ _ _ w (sat_nil w)⟩) hS
    (h _ _ (ha.put (d:=some d) (yp hd) r) hw2 (lateS_set hS) (hdown.set hr))
end
section
variable {P:Program} {n:Nat} {ds:List Deferred} {Q:Ky} {v:Env} {L L':List HProp}
theorem wx_cutP {x:Code} (E:Env→List HProp→Prop) (h1:wpx P n ds x (Exit.then (Cut n ds E) Q) v L) (h2:∀v' L',E v' L'→Post n ds Q .normal v' L'):wpx P n ds x Q v L :=
  fun a w ha hw=>wp_mono (h1 a w ha hw) fun e a w hq=>by
    cases e<;>first | exact hq | (obtain ⟨v',L',he,hf,hs⟩:=hq;exact h2 v' L' he a w hf hs)
end
end
section
open Go
variable {P:Program} {n:Nat} {ds:List Deferred} {ops:List Oper} {Q:Ky} {late:List Nat} {L0:List HProp} {v:Env} {L:List HProp} {fuel:Nat} {listed:Array Bool} {op:Op} {ty:TypeId} {pos:String} {af:Array Edge} {gd:Option (Nat×Bool)} {d:Nat} {r:Value}
theorem qp (i:Nat) (ho:opAt ops i=some ⟨some d,op,ty,pos,af,gd⟩) (hq:Qt P op ty v [] r) (h:wda P n ds ops Q late L0 fuel (listed.setIfInBounds i true) (up v d r) L) (hw:Wants n ds ops.toArray v gd true:=by exact qz) (hd:Nat.blt d n=true:=by exact rfl) (hk:pureOk ops late listed i=true:=by kernel_rfl):wda P n ds ops Q late L0 (fuel+1) listed v L:=yN i ho hw hd hk hq h
end
section
open Go
set_option maxRecDepth 4000
theorem lcat {ls:List Lk} {sp:List Value} {k:Nat} (hk:k<ls.length):∀j,j<3→(lcells ls++sp)[0+k*3+j]?=(ll (ls.getD k dL))[j]?:=fun j hj=>by
  rw [Nat.zero_add,List.getElem?_append_left (by rw [xF];omega)];exact lcells_at ls k j hk hj
theorem sp74o (lc:Nat) (la:Option Addr) (ls:List Lk) (hb:ls.length≤8) (ht:tot ls≤1000):Spec Tryz.prog 74 #[.slice la ls.length lc]
    (fun T=>own (.slice la ls.length lc) 117 3 (lcells ls)::T) (fun r T L=>r=.int .i64 (tot ls)∧L=own (.slice la ls.length lc) 117 3 (lcells ls)::T):=by
  refine spec_of (n:=18) (args:=[.slice la ls.length lc]) Tryz.func74 rfl rfl rfl rfl fun T=>?_;refine qw (qu (qo (qx (qv (qw (qu (qo ?_)))))));refine qx (qv (qw (qw (qu (qe ?_)))));refine qb (qI rfl) ?_;refine qb wH ?_;refine qx (qv (qJ (q7 (fun m v L=>∃(k:Nat),ls.length-k=m∧(∃v0,v=ups v0 [(3,.int .i64 (tot (ls.take k))),(6,.slice la ls.length lc),(7,.int .i64 ls.length),(8,.int .i64 k)])∧(k≤ls.length)∧L=own (.slice la ls.length lc) 117 3 (lcells ls)::T) _ _ ⟨0,rfl,⟨_,At.eq (.cons (by show Value.int .i64 0=_;simp [tot]) (.cons rfl (.cons rfl (.cons rfl .nil))))⟩,by omega,rfl⟩ qh ?_)));rintro m _ _ ⟨k,rfl,⟨v0,rfl⟩,hk,rfl⟩;refine qw (qu ?_);refine wG rfl (wj rfl rfl) (fun h9=>?_) (fun h9=>?_)
  · refine wl_ownS (a:=la) (xs:=lcells ls) (E:=117) qr (by rw [xF];omega) fun b sp ha hl1 hl2=>?_;subst ha;have h1:=tot_le ls (k+1);rw [jG qd] at h1;refine qx (qv (qw (qN rfl ?_)));refine qF (qv (qw (qJ (qw (qu (qb (wN rfl rfl rfl qd) ?_))))));refine qb (wD (rs:=ll (ls.getD k dL)) rfl rfl (lcat (k:=k) qd)) ?_;refine qC rfl (qZ fun b5=>?_);refine q6 (wc rfl rfl rfl rfl ?_);refine qx (qv (qu (qe ?_)));refine qb (qE rfl) ?_;refine qb (qA rfl) ?_;refine qb (wa rfl rfl qd) ?_;refine qi ?_;refine qx (qX (qv (qu (qb (wa rfl rfl qd) ?_))));refine qe ?_;refine qx (yW (fun w h=>xC (n:=ls.length) (cap:=lc) (k:=3) hl1 hl2 (Pm.sat (L':=pt b (cl (lcells ls++sp) 117)::_) (by repeat (first | with_reducible exact .refl | with_reducible exact .nil | with_reducible apply Pm.cons | with_reducible exact .here | with_reducible apply Sel.there | with_reducible apply Pm.drop)) w h)) ?_);refine qT _ _ ⟨k+1,rfl,⟨_,At.eq (.cons (by rw [jG qd];rfl) (.cons rfl (.cons rfl (.cons rfl .nil))))⟩,by omega,rfl⟩ qd qh
  · obtain rfl:k=ls.length:=by omega
    rw [List.take_length];refine qx (qv (qw (qB rfl ?_)));refine wk ?_;refine qQ (qQ (ww ?_));refine qv (qw (qu (qe ?_)));refine qi ?_;refine qx (qv (qL ?_));refine qM rfl rfl (qD qg) _ ⟨rfl,rfl⟩ qm
theorem sp42o (x p n2 lc gc:Nat) (la ga:Option Addr) (ls:List Lk) (hb:ls.length≤8) (ht:tot ls≤1000):Spec Tryz.prog 42 #[ptr x]
    (fun T=>idh x p la ls.length lc ga n2 gc::own (.slice la ls.length lc) 117 3 (lcells ls)::T) (fun r T L=>r=.int .i64 (tot ls)∧L=idh x p la ls.length lc ga n2 gc::own (.slice la ls.length lc) 117 3 (lcells ls)::T):=by
  refine spec_of (n:=10) (args:=[ptr x]) Tryz.func42 rfl rfl rfl rfl fun T=>?_;refine qw (qu (qo (qx (qv (qw (qw (qu ?_)))))));refine qe ?_;refine qb (wd rfl rfl) ?_;refine qx (qv (qB rfl ?_));refine qF (qv (qw (qu (qe ?_))));refine qb (qy rfl) ?_;refine qb (qE rfl) ?_;refine qb (qA rfl) ?_;refine qC rfl (qH qh (sp74o lc la ls qd qd) rfl ?_);rintro _ _ ⟨rfl,rfl⟩;refine qi ?_;refine qx (qv (qL ?_));refine qM rfl rfl (qD qg) _ ⟨rfl,rfl⟩ qm
theorem sp49 (x p bm t n2 lc gc q base n:Nat) (la ga:Option Addr) (ls:List Lk) (D D1 D3:List Fd) (l:Lk) (rs:List Rw) (hD:D=D1++(gname l.1,q,graphB base rs)::D3) (hn:(D.map (·.1)).Nodup) (H:GoodG base rs) (hnum:l.1<1000) (hcnt:l.2.1=rs.length) (hsum:l.2.2=crc (graphB base rs)) (hb:ls.length≤8) (ht:tot ls=base) (hle:base+rs.length≤n) (hnn:n≤100000):Spec Tryz.prog 49 #[ptr x,lv l,.int .i64 n]
    (fun T=>idh x p la ls.length lc ga n2 gc::own (.slice la ls.length lc) 117 3 (lcells ls)::fsh p bm t::mpo bm (dm D)::fls D::pw10::T) (fun r T L=>∃a cap rs2,r=.tuple #[gv base a rs.length cap,.bool true]∧rs2.map bare=rs.map bare∧L=gdi a rs.length cap rs2::pars rs2::idh x p la ls.length lc ga n2 gc::own (.slice la ls.length lc) 117 3 (lcells ls)::fsh p bm t::mpo bm (dm D)::fls D::pw10::T):=by
  refine spec_of (n:=65) (args:=[ptr x,lv l,.int .i64 n]) Tryz.func49 rfl rfl rfl rfl fun T=>?_;have hlen:=H.len;have hgB:=graphB_le H;refine qw (qu ?_);refine qC rfl (wx rfl fun b4=>?_);refine qC rfl (qZ fun b6=>?_);refine qo (qx (qv (qw (wg [] [idh x p la ls.length lc ga n2 gc,pt b4 (cl (ll l) 117)] mixed qm 13 rfl ?_))));refine qp 0 rfl (qK qg) ?_;refine qp 1 rfl (qy rfl) ?_;refine qp 2 rfl (qE rfl) ?_;refine qk 3 rfl (qA rfl) ?_;refine qp 4 rfl (qE rfl) ?_;refine qk 5 rfl (qA rfl) ?_;refine qO [6] qj rfl ⟨?_,trivial⟩;refine we rfl qz rfl (qH qh (sp81 l.1 hnum) rfl ?_);rintro _ _ ⟨rfl,rfl⟩;refine ⟨.inr qm,?_⟩;refine qO [7] qj rfl ⟨?_,trivial⟩;refine we rfl qz rfl (qH qh (sp47y p bm t D D1 D3 (gname l.1,q,graphB base rs) hD hn) rfl ?_);rintro _ _ ⟨rfl,rfl⟩;refine ⟨.inr qm,?_⟩;refine qp 8 rfl (qK qg) ?_;refine qp 9 rfl (qP rfl) ?_;refine qp 10 rfl (qP rfl) ?_;refine qp 11 rfl (xh qg) ?_;refine qp 12 rfl (xh qg) ?_;refine qY qj ?_;refine qv (qw (qw (wg [] [pt b4 (cl (ll l) 117)] mixed qm 10 rfl ?_)));refine qp 0 rfl (qK qg) ?_;refine yL 1 rfl qz rfl qj (wB rfl rfl) (fun h23=>?_) (fun h23=>?_)
  · skip
    exfalso;exact h23 rfl
  · refine qp 2 rfl (qK qg) ?_;refine yN 3 rfl (qG rfl rfl rfl rfl) rfl qj (qK qg) ?_;refine yN 6 rfl (qG rfl rfl rfl rfl) rfl qj (qE rfl) ?_;refine wo 7 rfl (qG rfl rfl rfl rfl) rfl qj (qA rfl) ?_;refine qO [4] qj rfl ⟨?_,trivial⟩;refine we rfl (qG rfl rfl rfl rfl) rfl (qS rfl (by first | decide | simp) (.one qg rfl .nil) fun b26=>?_);refine ⟨.inr qm,?_⟩;refine qO [5] qj rfl ⟨?_,trivial⟩;refine we rfl (qG rfl rfl rfl rfl) rfl (qH qh (sp78 b26 ⟨(graphB base rs).toArray⟩ (by rw [jp];omega)) rfl ?_);rintro _ _ ⟨rfl,rfl⟩;refine ⟨.inr qm,?_⟩;refine yL 8 rfl (qG rfl rfl rfl rfl) rfl qj (wB rfl rfl) (fun h30=>?_) (fun h30=>?_)
    · skip
      exfalso;apply h30;rw [hsum]
    · refine qp 9 rfl (qW rfl qg) ?_;refine qY qj ?_;refine qv (qB rfl ?_);refine qF (qv (qw (qu (qe ?_))));refine qC rfl (qH qh (sp99 base rs ⟨(graphB base rs).toArray⟩ H rfl) rfl ?_);rintro _ _ ⟨a,cap,rs2,rfl,hba,rfl⟩;refine qe ?_;refine qb (qP rfl) ?_;refine qb (qP rfl) ?_;refine qC rfl (qZ fun b10=>?_);refine q6 (wc rfl rfl rfl rfl ?_);refine qi ?_;refine qx (qv (qw (wg [] [pt b10 (cl (gl base a rs.length cap) 110),pt b4 (cl (ll l) 117)] mixed qm 29 rfl ?_)));refine qk 0 rfl (wm rfl) ?_;refine qp 1 rfl (qK qg) ?_;refine yL 2 rfl qz rfl qj (wA rfl rfl) (fun h40=>?_) (fun h40=>?_)
      · refine qp 3 rfl (qK qg) ?_;refine yN 4 rfl (qG rfl rfl rfl rfl) rfl qj (qE rfl) ?_;refine wo 5 rfl (qG rfl rfl rfl rfl) rfl qj (qA rfl) ?_;refine yN 6 rfl (qG rfl rfl rfl rfl) rfl qj (qK qg) ?_;refine qO [7] qj rfl ⟨?_,trivial⟩;refine we rfl (qG rfl rfl rfl rfl) rfl (qH qh (sp42o x p n2 lc gc la ga ls hb qd) rfl ?_);rintro _ _ ⟨rfl,rfl⟩;refine ⟨.inr qm,?_⟩;refine yL 8 rfl (qG rfl rfl rfl rfl) rfl qj (wA rfl rfl) (fun h46=>?_) (fun h46=>?_)
        · refine qp 9 rfl (q9 rfl qg) ?_;refine qp 10 rfl (qK qg) ?_;refine yN 11 rfl (qG rfl rfl rfl rfl) rfl qj (qE rfl) ?_;refine wo 12 rfl (qG rfl rfl rfl rfl) rfl qj (qA rfl) ?_;refine wo 13 rfl (qG rfl rfl rfl rfl) rfl qj (qI rfl) ?_;refine yN 14 rfl (qG rfl rfl rfl rfl) rfl qj (qE rfl) ?_;refine wo 15 rfl (qG rfl rfl rfl rfl) rfl qj (qA rfl) ?_;refine yL 16 rfl (qG rfl rfl rfl rfl) rfl qj (wA rfl rfl) (fun h54=>?_) (fun h54=>?_)
          · refine qp 17 rfl (q9 rfl qg) ?_;refine qp 18 rfl (qK qg) ?_;refine yN 19 rfl (qG rfl rfl rfl rfl) rfl qj (qE rfl) ?_;refine wo 20 rfl (qG rfl rfl rfl rfl) rfl qj (qA rfl) ?_;refine yN 21 rfl (qG rfl rfl rfl rfl) rfl qj (qE rfl) ?_;refine wo 22 rfl (qG rfl rfl rfl rfl) rfl qj (qA rfl) ?_;refine yN 23 rfl (qG rfl rfl rfl rfl) rfl qj (wa rfl rfl qd) ?_;refine yN 24 rfl (qG rfl rfl rfl rfl) rfl qj (qK qg) ?_;refine yL 25 rfl (qG rfl rfl rfl rfl) rfl qj (yi rfl rfl) (fun h63=>?_) (fun h63=>?_)
            · refine qp 26 rfl (q9 rfl qg) ?_;refine qO [27] qj rfl ⟨?_,trivial⟩;refine wn rfl qz (wc rfl rfl rfl rfl ?_);refine ⟨.inr qm,?_⟩;refine qp 28 rfl (xh qg) ?_;refine qY qj ?_;refine qv (qL ?_);refine wu rfl rfl (wJ rfl) (qD qg) _ ⟨a,cap,rs2,rfl,hba,rfl⟩ qm
            · skip
              exfalso;omega
          · skip
            exfalso;apply h54;rw [hcnt]
        · skip
          exfalso;apply h46;rw [ht]
      · skip
        exfalso;exact h40 rfl
end
section
open Go
set_option maxRecDepth 4000
theorem sat_opened {x p nl ng ck dk:Nat} {lk gk:Option Addr} {ls:List Lk} {gs:List Ly} {L:List HProp} {w:World} (h1:ls.length=nl) (h2:gs.length=ng)
    (h:Sat (own (.slice lk nl ck) 117 3 (lcells ls)::own (.slice gk ng dk) 110 6 (lyls gs)::idh x p lk nl ck gk ng dk::gpars gs::pars (rowsOf gs)::L) w):Sat (idx x p ls gs::L) w:=by
  have h3:=wX h;have h4:=wX ((Sel.there Sel.here).ent.sat h3);exact js h1 h2 ((Pm.cons (.there (.there .here)) (Pm.cons (.there .here) (Pm.cons .here .refl))).sat w h4)
structure SameL (gs2 gs:List Ly):Prop where
  len:gs2.length=gs.length
  each:∀j,j<gs.length→(gs2.getD j dLy).base=(gs.getD j dLy).base∧(gs2.getD j dLy).rs.map bare=(gs.getD j dLy).rs.map bare
theorem mem_split {α:Type} {a:α} {l:List α} (h:a∈l):∃s t,l=s++a::t:=List.append_of_mem h
theorem sp27n (p bm t ql n:Nat) (lb:List UInt8) (D2:List Fd) (ls:List Lk) (gs:List Ly) (X:XOk D2 ls gs) (hle:(rowsOf gs).length≤n) (hnn:n≤100000) (h0:ls=[]):Spec Tryz.prog 27 #[ptr p,.int .i64 n]
    (fun T=>fsh p bm t::mpo bm (dm ((logN,ql,lb)::D2))::fls ((logN,ql,lb)::D2)::pw10::T) (fun r T L=>∃x gs2,r=.tuple #[ptr x,.int .i64 0]∧SameL gs2 gs∧L=idx x p ls gs2::fsh p bm t::mpo bm (dm ((logN,ql,lb)::D2))::fls ((logN,ql,lb)::D2)::pw10::T):=by
  refine spec_of (n:=74) (args:=[ptr p,.int .i64 n]) Tryz.func27 rfl rfl rfl rfl fun T=>?_;subst h0;have hD:=X.disk.nil rfl;subst hD;have hg0:gs=[]:=List.length_eq_zero_iff.1 X.lays.len;subst hg0;refine qw (qu (qo (qo (qx (qv (qw (qJ ?_)))))));refine qw (qu (qe ?_));refine qb (wd rfl rfl) ?_;refine qi ?_;refine qx (qv (qB rfl ?_));refine qw (qu (qe ?_));refine qC rfl (qH qh (sp46 p bm t (dm [(logN,ql,lb)])) rfl ?_);rintro _ _ ⟨rfl,rfl⟩;refine qi ?_;refine qx (qv (qB rfl ?_));refine qF (qX (qv (qw (qu (qe ?_)))));refine qb (wy (.one qg rfl .nil)) ?_;refine qC rfl (wx rfl fun b23=>?_);refine qi ?_;refine qx (qv (qw (qu (qe ?_))));refine qC rfl (qH qh (sp47n p bm t (dm [(logN,ql,lb)]) chainN (jm (by intro d hd;rw [List.mem_singleton.1 hd];exact (by decide:logN≠chainN)))) rfl ?_);rintro _ _ ⟨rfl,rfl⟩;refine qe ?_;refine qb (qP rfl) ?_;refine qb (qP rfl) ?_;refine qi ?_;refine qi ?_;refine qx (qv (qw (qw (qu (qe ?_)))));refine xb rfl (wB rfl rfl) (by simp) ?_;refine qx (qv (qN rfl ?_));refine qw (qu (qe ?_));refine qi ?_;refine qo (qx (qv (qL ?_)));refine wt ?_;refine wu rfl rfl (qD qg) (qD qg) _ ⟨b23,[],rfl,⟨rfl,fun j hj=>by simp at hj⟩,rfl⟩ (fun w h=>?_);have h2:=yQ ((wi (L:=[])).sat h);exact sat_opened (nl:=0) (ng:=0) (lk:=none) (gk:=none) (ck:=0) (dk:=0) rfl rfl (wC.sat (wC.sat (Pm.sat qh w (Pm.sat (L':=pt b23 _::box []::pars []::_) qh w h2))))
theorem sp27y (p bm t ql n:Nat) (lb:List UInt8) (D2:List Fd) (ls:List Lk) (gs:List Ly) (X:XOk D2 ls gs) (hle:(rowsOf gs).length≤n) (hnn:n≤100000) (h0:ls≠[]):Spec Tryz.prog 27 #[ptr p,.int .i64 n]
    (fun T=>fsh p bm t::mpo bm (dm ((logN,ql,lb)::D2))::fls ((logN,ql,lb)::D2)::pw10::T) (fun r T L=>∃x gs2,r=.tuple #[ptr x,.int .i64 0]∧SameL gs2 gs∧L=idx x p ls gs2::fsh p bm t::mpo bm (dm ((logN,ql,lb)::D2))::fls ((logN,ql,lb)::D2)::pw10::T):=by
  refine spec_of (n:=74) (args:=[ptr p,.int .i64 n]) Tryz.func27 rfl rfl rfl rfl fun T=>?_;have hn:=X.disk.nd;have hfew:=X.lays.few;have hgl:=X.lays.len;have hall:=X.lays.all;obtain ⟨qc,hqc⟩:=X.disk.chain h0;obtain ⟨D1,D3,hsp⟩:=mem_split (List.mem_cons_of_mem (logN,ql,lb) hqc);refine qw (qu (qo (qo (qx (qv (qw (qJ ?_)))))));refine qw (qu (qe ?_));refine qb (wd rfl rfl) ?_;refine qi ?_;refine qx (qv (qB rfl ?_));refine qw (qu (qe ?_));refine qC rfl (qH qh (sp46 p bm t (dm ((logN,ql,lb)::D2))) rfl ?_);rintro _ _ ⟨rfl,rfl⟩;refine qi ?_;refine qx (qv (qB rfl ?_));refine qF (qX (qv (qw (qu (qe ?_)))));refine qb (wy (.one qg rfl .nil)) ?_;refine qC rfl (wx rfl fun b23=>?_);refine qi ?_;refine qx (qv (qw (qu (qe ?_))));refine qC rfl (qH qh (sp47y p bm t ((logN,ql,lb)::D2) D1 D3 (chainN,qc,chainB ls) hsp hn) rfl ?_);rintro _ _ ⟨rfl,rfl⟩;refine qe ?_;refine qb (qP rfl) ?_;refine qb (qP rfl) ?_;refine qi ?_;refine qi ?_;refine qx (qv (qw (qw (qu (qe ?_)))));refine wq rfl (wB rfl rfl) (by simp) ?_;refine qx (qv (qB rfl ?_));refine qF (qv (qw (qu (qe ?_))));refine qC rfl (qH qh (sp48 ls.length ⟨(chainB ls).toArray⟩ ls rfl X.links rfl) rfl ?_);rintro _ _ ⟨la0,lc0,rfl,rfl⟩;refine qe ?_;refine qb (qP rfl) ?_;refine qb (qP rfl) ?_;refine qi ?_;refine qi ?_;refine qx (qv (qw (qw (qu (qe ?_)))));refine qb (qI rfl) ?_;refine qb wH ?_;refine qx (qv (qJ (w8 (fun w h=>(wC (E:=117) (k:=3)).sat ((wC (E:=110) (k:=6)).sat (yQ ((wi (L:=[])).sat h)))) ?_)));refine q7 (fun m v L=>∃(k:Nat) (lk gk:Option Addr) (ck dk:Nat) (acc:List Ly),ls.length-k=m∧(∃v0,v=ups v0 [(1,.int .i64 n),(6,ptr b23),(37,.slice la0 ls.length lc0),(38,.int .i64 ls.length),(39,.int .i64 k)])∧(k≤ls.length)∧(acc.length=k)∧(∀j,j<k→(acc.getD j dLy).base=(gs.getD j dLy).base∧(acc.getD j dLy).rs.map bare=(gs.getD j dLy).rs.map bare)∧L=idh b23 p lk (ls.take k).length ck gk acc.length dk::own (.slice lk (ls.take k).length ck) 117 3 (lcells (ls.take k))::own (.slice gk acc.length dk) 110 6 (lyls acc)::gpars acc::pars (rowsOf acc)::ldi la0 ls.length lc0 ls::fsh p bm t::mpo bm (dm ((logN,ql,lb)::D2))::fls ((logN,ql,lb)::D2)::pw10::T) _ _ ⟨0,none,none,0,0,[],rfl,⟨_,At.eq (.cons rfl (.cons rfl (.cons rfl (.cons rfl (.cons rfl .nil)))))⟩,by omega,rfl,fun j hj=>by omega,rfl⟩ qh ?_;rintro m _ _ ⟨k,lk,gk,ck,dk,acc,rfl,⟨v0,rfl⟩,hk,hacc,hsame,rfl⟩;refine qw (qu ?_);refine wG rfl (wj rfl rfl) (fun h40=>?_) (fun h40=>?_)
  · refine wK (a:=la0) (xs:=lcells ls) qr (by rw [xF];omega) fun b off l E fz ha hl=>?_;subst ha;obtain ⟨qf,hqf⟩:=X.disk.file k qd;obtain ⟨D4,D5,hsf⟩:=mem_split (List.mem_cons_of_mem (logN,ql,lb) hqf);have hbk:=X.lays.base k qd;refine qx (qv (qw (qN rfl ?_)));refine qF (qv (qw (qJ (qw (qu (qb (wN rfl rfl rfl qd) ?_))))));refine qb (wD (rs:=ll (ls.getD k dL)) rfl rfl (lat3 hl qd)) ?_;refine qC rfl (qZ fun b12=>?_);refine q6 (wc rfl rfl rfl rfl ?_);refine qx (qv (qw (qu (qe ?_))));refine qb (wm rfl) ?_;refine qe ?_;refine qC rfl (qH qh (sp49 b23 p bm t acc.length ck dk qf (gs.getD k dLy).base n lk gk (ls.take k) ((logN,ql,lb)::D2) D4 D5 (ls.getD k dL) (gs.getD k dLy).rs hsf hn (X.good k qd) (by have:=X.small _ (w6 (d:=dL) (show k<ls.length by omega));omega) (X.lays.cnt k qd) (X.sum k qd) (by simp;omega) (by rw [X.lays.tot_take k qd,hbk]) (by have:=X.lays.le (k:=k) qd;omega) hnn) rfl ?_);rintro _ _ ⟨a,cap,rs2,rfl,hba,rfl⟩;have hl2:=yC hba;rw [←hl2];refine qe ?_;refine qb (qP rfl) ?_;refine qb (qP rfl) ?_;refine qC rfl (qZ fun b13=>?_);refine q6 (wc rfl rfl rfl rfl ?_);refine qi ?_;refine qx (qv (qw (qw (qu (qe ?_)))));refine qb (xe rfl) ?_;refine qx (qv (qB rfl ?_));refine qF (qv ?_);refine wx_cutP (fun v L=>∃(lk2 gk2:Option Addr) (ck2 dk2:Nat),(∃v0,v=ups v0 [(1,.int .i64 n),(6,ptr b23),(37,.slice (some ⟨b,off,none⟩) ls.length lc0),(38,.int .i64 ls.length),(39,.int .i64 k)])∧L=idh b23 p lk2 ((ls.take k).length+1) ck2 gk2 (acc.length+1) dk2::own (.slice lk2 ((ls.take k).length+1) ck2) 117 3 (lcells (ls.take k)++ll (ls.getD k dL))::own (.slice gk2 (acc.length+1) dk2) 110 6 (lyls acc++lyl ⟨(gs.getD k dLy).base,a,cap,rs2⟩)::gpars acc::pars (rowsOf acc)::gdi a rs2.length cap rs2::pars rs2::ldi (some ⟨b,off,none⟩) ls.length lc0 ls::fsh p bm t::mpo bm (dm ((logN,ql,lb)::D2))::fls ((logN,ql,lb)::D2)::pw10::T) ?_ ?_
    · refine wg [18] [idh b23 p lk (ls.take k).length ck gk acc.length dk,pt b12 (cl (ll (ls.getD k dL)) 117),pt b13 (cl (lyl ⟨(gs.getD k dLy).base,a,cap,rs2⟩) 110)] mixed qm 22 rfl ?_;refine qp 0 rfl (qK qg) ?_;refine qp 1 rfl (qK qg) ?_;refine qp 2 rfl (qK qg) ?_;refine qp 3 rfl (qy rfl) ?_;refine qp 4 rfl (qE rfl) ?_;refine qk 5 rfl (qA rfl) ?_;refine qk 6 rfl (wm rfl) ?_;refine qp 9 rfl (qK qg) ?_;refine qp 10 rfl (qy rfl) ?_;refine qp 11 rfl (qE rfl) ?_;refine qk 12 rfl (qA rfl) ?_;refine qk 13 rfl (wm rfl) ?_;refine qO [7,14] qj rfl ⟨?_,?_,trivial⟩
      · refine we rfl qz rfl (qS rfl (by first | decide | simp) (.agg rfl rfl .nil) fun b59=>?_);simp only [List.append_nil,List.cons_append,List.nil_append];refine ⟨.inr qm,?_⟩;refine qO [8,14] qj rfl ⟨?_,?_,trivial⟩
        · refine we rfl qz rfl (wl qg qg qr rfl (by rfl) (by decide) (xc (k:=3) (ys:=(ll (ls.getD k dL))) rfl) (onesK rfl) (fun _ _ _ h h'=>by cases h;have:=List.length_take_le k ls;omega) ?_);rintro _ _ _ a60 c60 ⟨⟩;refine ⟨.inr qm,?_⟩;refine qO [14] qj rfl ⟨?_,trivial⟩;refine we rfl qz rfl (qS rfl (by first | decide | simp) (.agg rfl rfl .nil) fun b66=>?_);simp only [List.append_nil,List.cons_append,List.nil_append];refine ⟨.inr qm,?_⟩;refine qO [15] qj rfl ⟨?_,trivial⟩;refine we rfl qz rfl (wl qg qg qr rfl (by rfl) (by decide) (xc (k:=6) (ys:=(lyl ⟨(gs.getD k dLy).base,a,cap,rs2⟩)) rfl) (onesK rfl) (fun _ _ _ h h'=>by cases h;omega) ?_);rintro _ _ _ a67 c67 ⟨⟩;refine ⟨.inr qm,?_⟩;refine qp 16 rfl (qy rfl) ?_;refine qp 17 rfl (qE rfl) ?_;refine qO [18] qj rfl ⟨?_,trivial⟩;refine wn rfl qz (qV rfl qg rfl ?_);refine ⟨.inl qj,?_⟩;refine qp 19 rfl (qy rfl) ?_;refine qp 20 rfl (qE rfl) ?_;refine qO [21] qj rfl ⟨?_,trivial⟩;refine wn rfl qz (qV rfl qg rfl ?_);refine ⟨.inl qj,?_⟩;refine qY qj ?_;refine yx _ ⟨_,_,_,_,⟨_,At.eq (.cons rfl (.cons rfl (.cons rfl (.cons rfl (.cons rfl .nil)))))⟩,rfl⟩ qh
        · refine we rfl qz rfl (qS rfl (by first | decide | simp) (.agg rfl rfl .nil) fun b66=>?_);simp only [List.append_nil,List.cons_append,List.nil_append];refine ⟨.inr qm,?_⟩;refine qO [8] qj rfl ⟨?_,trivial⟩;refine we rfl qz rfl (wl qg qg qr rfl (by rfl) (by decide) (xc (k:=3) (ys:=(ll (ls.getD k dL))) rfl) (onesK rfl) (fun _ _ _ h h'=>by cases h;have:=List.length_take_le k ls;omega) ?_);rintro _ _ _ a60 c60 ⟨⟩;refine ⟨.inr qm,?_⟩;refine qO [15] qj rfl ⟨?_,trivial⟩;refine we rfl qz rfl (wl qg qg qr rfl (by rfl) (by decide) (xc (k:=6) (ys:=(lyl ⟨(gs.getD k dLy).base,a,cap,rs2⟩)) rfl) (onesK rfl) (fun _ _ _ h h'=>by cases h;omega) ?_);rintro _ _ _ a67 c67 ⟨⟩;refine ⟨.inr qm,?_⟩;refine qp 16 rfl (qy rfl) ?_;refine qp 17 rfl (qE rfl) ?_;refine qO [18] qj rfl ⟨?_,trivial⟩;refine wn rfl qz (qV rfl qg rfl ?_);refine ⟨.inl qj,?_⟩;refine qp 19 rfl (qy rfl) ?_;refine qp 20 rfl (qE rfl) ?_;refine qO [21] qj rfl ⟨?_,trivial⟩;refine wn rfl qz (qV rfl qg rfl ?_);refine ⟨.inl qj,?_⟩;refine qY qj ?_;refine yx _ ⟨_,_,_,_,⟨_,At.eq (.cons rfl (.cons rfl (.cons rfl (.cons rfl (.cons rfl .nil)))))⟩,rfl⟩ qh
      · refine we rfl qz rfl (qS rfl (by first | decide | simp) (.agg rfl rfl .nil) fun b66=>?_);simp only [List.append_nil,List.cons_append,List.nil_append];refine ⟨.inr qm,?_⟩;refine qO [7] qj rfl ⟨?_,trivial⟩;refine we rfl qz rfl (qS rfl (by first | decide | simp) (.agg rfl rfl .nil) fun b59=>?_);simp only [List.append_nil,List.cons_append,List.nil_append];refine ⟨.inr qm,?_⟩;refine qO [8] qj rfl ⟨?_,trivial⟩;refine we rfl qz rfl (wl qg qg qr rfl (by rfl) (by decide) (xc (k:=3) (ys:=(ll (ls.getD k dL))) rfl) (onesK rfl) (fun _ _ _ h h'=>by cases h;have:=List.length_take_le k ls;omega) ?_);rintro _ _ _ a60 c60 ⟨⟩;refine ⟨.inr qm,?_⟩;refine qO [15] qj rfl ⟨?_,trivial⟩;refine we rfl qz rfl (wl qg qg qr rfl (by rfl) (by decide) (xc (k:=6) (ys:=(lyl ⟨(gs.getD k dLy).base,a,cap,rs2⟩)) rfl) (onesK rfl) (fun _ _ _ h h'=>by cases h;omega) ?_);rintro _ _ _ a67 c67 ⟨⟩;refine ⟨.inr qm,?_⟩;refine qp 16 rfl (qy rfl) ?_;refine qp 17 rfl (qE rfl) ?_;refine qO [18] qj rfl ⟨?_,trivial⟩;refine wn rfl qz (qV rfl qg rfl ?_);refine ⟨.inl qj,?_⟩;refine qp 19 rfl (qy rfl) ?_;refine qp 20 rfl (qE rfl) ?_;refine qO [21] qj rfl ⟨?_,trivial⟩;refine wn rfl qz (qV rfl qg rfl ?_);refine ⟨.inl qj,?_⟩;refine qY qj ?_;refine yx _ ⟨_,_,_,_,⟨_,At.eq (.cons rfl (.cons rfl (.cons rfl (.cons rfl (.cons rfl .nil)))))⟩,rfl⟩ qh
    · rintro _ _ ⟨lk2,gk2,ck2,dk2,⟨v0,rfl⟩,rfl⟩;refine yW (fun w h=>xP (f:=gpar) (l:=acc) (x:=⟨(gs.getD k dLy).base,a,cap,rs2⟩) (Pm.sat (L':=gpar ⟨(gs.getD k dLy).base,a,cap,rs2⟩::gpars acc::_) qh w h)) ?_;refine yW (fun w h=>kL (acc:=rowsOf acc) (rs:=rs2) (Pm.sat (L':=pars (rowsOf acc)::pars rs2::_) (by repeat (first | with_reducible exact .refl | with_reducible exact .nil | with_reducible apply Pm.cons | with_reducible exact .here | with_reducible apply Sel.there | with_reducible apply Pm.drop)) w h)) ?_;refine qX (qv (qu (qb (wa rfl rfl qd) ?_)));refine qe ?_;refine qx ?_;refine qT _ _ ⟨k+1,_,_,_,_,acc++[⟨(gs.getD k dLy).base,a,cap,rs2⟩],rfl,⟨_,At.eq (.cons rfl (.cons rfl (.cons rfl (.cons rfl (.cons rfl .nil)))))⟩,by omega,by simp;omega,fun j hj=>by
  by_cases e:j<k
  · rw [xg qd];exact hsame j e
  · obtain rfl:j=acc.length:=by omega
    rw [xK,hacc];exact ⟨rfl,hba⟩,rfl⟩ qd (by rw [show (ls.take (k+1)).length=(ls.take k).length+1 by simp;omega,List.length_append,show [(⟨(gs.getD k dLy).base,a,cap,rs2⟩:Ly)].length=1 from rfl,show lcells (ls.take (k+1))=lcells (ls.take k)++ll (ls.getD k dL) by rw [wU (d:=dL) qd,jg];simp [lcells],lyls_append,show lyls [(⟨(gs.getD k dLy).base,a,cap,rs2⟩:Ly)]=lyl ⟨(gs.getD k dLy).base,a,cap,rs2⟩ by simp [lyls],jt];repeat (first | exact .refl | exact .nil | apply Pm.cons | exact .here | apply Sel.there | apply Pm.drop))
  · obtain rfl:k=ls.length:=by omega
    rw [List.take_length];refine qx (qv (qw (qB rfl ?_)));refine wk ?_;refine qQ (qQ (ww ?_));refine qv (qw (qu (qe ?_)));refine qi ?_;refine qo (qx (qv (qL ?_)));refine wu rfl rfl (qD qg) (qD qg) _ ⟨b23,acc,rfl,⟨by omega,fun j hj=>hsame j qd⟩,rfl⟩ (fun w h=>?_);exact sat_opened rfl rfl (Pm.sat (L':=own (.slice lk ls.length ck) 117 3 (lcells ls)::own (.slice gk acc.length dk) 110 6 (lyls acc)::idh b23 p lk ls.length ck gk acc.length dk::gpars acc::pars (rowsOf acc)::_) (by repeat (first | with_reducible exact .refl | with_reducible exact .nil | with_reducible apply Pm.cons | with_reducible exact .here | with_reducible apply Sel.there | with_reducible apply Pm.drop)) w h)
end
section
open Go
set_option maxRecDepth 4000
abbrev viw (v q x:Nat):HProp:=pt v (cl [ptr q,ptr x] 124)
structure VwOk (ts:List Tr) (cs:List Cm) (ls:List Lk) (gs:List Ly):Prop where
  lays:LaysOk ls gs
  s:StoOk ts cs
  fit:RowsFit cs [] (rowsOf gs)
theorem VwOk.le {ts:List Tr} {cs:List Cm} {ls:List Lk} {gs:List Ly} (V:VwOk ts cs ls gs):(rowsOf gs).length≤cs.length:=by have:=V.fit.len;simpa using this
def genV (gs:List Ly) (n:Nat):Nat:=if n<(rowsOf gs).length then ((rowsOf gs).getD n dR).gen else 1024
theorem VwOk.gen_le {ts:List Tr} {cs:List Cm} {ls:List Lk} {gs:List Ly} (V:VwOk ts cs ls gs) (n:Nat):1≤genV gs n∧genV gs n≤1024:=by
  unfold genV
  split
  · rename_i h;have h1:=V.fit.gen n h;have h2:=V.lays.all;simp only [List.length_nil] at h1;omega
  · omega
theorem row_ps {ts:List Tr} {cs:List Cm} {ls:List Lk} {gs:List Ly} (V:VwOk ts cs ls gs) {n:Nat} (h:n<(rowsOf gs).length):((rowsOf gs).getD n dR).ps=(cs.getD n dCm).ps:=by
  have:=V.fit.ps n h;simpa using this
theorem sp29 (q x:Nat):Spec Tryz.prog 29 #[ptr q,ptr x]
    (fun T=>T) (fun r T L=>∃v,r=ptr v∧L=viw v q x::T):=by
  refine spec_of (n:=9) (args:=[ptr q,ptr x]) Tryz.func29 rfl rfl rfl rfl fun T=>?_;refine qw (qu (qo (qx (qv (qw (qu (qe ?_)))))));refine qe ?_;refine qb (wy (.one qg rfl (.one qg rfl .nil))) ?_;refine qC rfl (wx rfl fun b8=>?_);refine qi ?_;refine qx (qv (qL ?_));refine qM rfl rfl (qD qg) _ ⟨_,rfl,rfl⟩ qm
theorem sp120 (v q p x:Nat) (ts:List Tr) (cs:List Cm) (ls:List Lk) (gs:List Ly) (V:VwOk ts cs ls gs):Spec Tryz.prog 120 #[ptr v]
    (fun T=>viw v q x::sto q p ts cs::idx x p ls gs::T) (fun r T L=>r=.int .i64 cs.length∧L=viw v q x::sto q p ts cs::idx x p ls gs::T):=by
  refine spec_of (n:=10) (args:=[ptr v]) Tryz.func120 rfl rfl rfl rfl fun T=>?_;refine qw (qu (qo (qx (qv (qw (qw (qu ?_)))))));refine qe ?_;refine qb (wd rfl rfl) ?_;refine qx (qv (qB rfl ?_));refine qF (qv (qw (qu (qe ?_))));refine qb (qy rfl) ?_;refine qb (qE rfl) ?_;refine qb (qA rfl) ?_;refine qC rfl (qH qh (sp28s q p ts cs) rfl ?_);rintro _ _ ⟨rfl,rfl⟩;refine qi ?_;refine qx (qv (qL ?_));refine qM rfl rfl (qD qg) _ ⟨rfl,rfl⟩ qm
theorem sp286 (v q p x:Nat) (ts:List Tr) (cs:List Cm) (ls:List Lk) (gs:List Ly) (V:VwOk ts cs ls gs):Spec Tryz.prog 286 #[ptr v]
    (fun T=>viw v q x::sto q p ts cs::idx x p ls gs::T) (fun r T L=>r=.int .i64 (rowsOf gs).length∧L=viw v q x::sto q p ts cs::idx x p ls gs::T):=by
  refine spec_of (n:=13) (args:=[ptr v]) Tryz.func286 rfl rfl rfl rfl fun T=>?_;have hle:=V.le;refine qw (qu (qo (qx (qv (qw (qw (qu ?_)))))));refine qe ?_;refine qb (wd rfl rfl) ?_;refine qx (qv (qB rfl ?_));refine qF (qv (qw (qu (qe ?_))));refine qb (qy rfl) ?_;refine qb (qE rfl) ?_;refine qb (qA rfl) ?_;refine qC rfl (qH qh (sp42s x p ls gs V.lays) rfl ?_);rintro _ _ ⟨rfl,rfl⟩;refine qe ?_;refine qC rfl (qH qh (sp120 v q p x ts cs ls gs V) rfl ?_);rintro _ _ ⟨rfl,rfl⟩;refine qb (yE (r:=((rowsOf gs).length:Nat)) rfl rfl (by split<;>omega)) ?_;refine qi ?_;refine qx (qv (qL ?_));refine qM rfl rfl (qD qg) _ ⟨rfl,rfl⟩ qm
theorem sp215 (v q p x:Nat) (ts:List Tr) (cs:List Cm) (ls:List Lk) (gs:List Ly) (V:VwOk ts cs ls gs) (n:Nat) (hn:n<cs.length):Spec Tryz.prog 215 #[ptr v,.int .i64 n]
    (fun T=>viw v q x::sto q p ts cs::idx x p ls gs::T) (fun r T L=>∃r':Rw,r=.tuple #[rv r',.bool true]∧r'.ps=(cs.getD n dCm).ps∧r'.gen=genV gs n∧L=rpar r'::viw v q x::sto q p ts cs::idx x p ls gs::T):=by
  refine spec_of (n:=45) (args:=[ptr v,.int .i64 n]) Tryz.func215 rfl rfl rfl rfl fun T=>?_;have hle:=V.le;have hlc:=V.s.lc;have hpl:=V.s.len n hn;refine qw (qu ?_);refine qC rfl (qZ fun b4=>?_);refine qo (qx (qv (qw (qJ (qw (qu (qe ?_)))))));refine wq rfl (wj rfl rfl) qd ?_;refine qe ?_;refine qq (qK qg) ?_;refine qq (qK qg) ?_;refine xr (qG rfl rfl rfl rfl) rfl (qH qh (sp120 v q p x ts cs ls gs V) rfl ?_);rintro _ _ ⟨rfl,rfl⟩;refine wR (qG rfl rfl rfl rfl) rfl (w9 rfl rfl) qd ?_;refine qb (qW rfl qg) ?_;refine qi ?_;refine qx (qv (qB rfl ?_));refine qw (qu (qe ?_));refine qe ?_;refine qC rfl (qH qh (sp286 v q p x ts cs ls gs V) rfl ?_);rintro _ _ ⟨rfl,rfl⟩;refine wG rfl (wj rfl rfl) (fun h22=>?_) (fun h22=>?_)
  · refine qi ?_;refine qx (qv (qN rfl ?_));refine qw (qu (qe ?_));refine qb (qy rfl) ?_;refine qb (qE rfl) ?_;refine qb (qA rfl) ?_;refine qe ?_;refine qC rfl (qH qh (sp287 x p ls gs V.lays n qd (by rw [row_ps V qd];exact hpl)) rfl ?_);rintro _ _ ⟨a,c,rfl,rfl⟩;refine qb (qP rfl) ?_;refine qb (qP rfl) ?_;refine q6 (wc rfl rfl rfl rfl ?_);refine qi ?_;refine qx (qv (qL ?_));refine wQ (wt ?_);refine wu rfl rfl (wJ rfl) (qD qg) _ ⟨{ ((rowsOf gs).getD n dR) with a:=a,cap:=c },rfl,row_ps V qd,by unfold genV;rw [if_pos qd],rfl⟩ qm
  · refine qi ?_;refine qx (qv (qB rfl ?_));refine qF (qX (qv (qw (qu (qe ?_)))));refine qb (qy rfl) ?_;refine qb (qE rfl) ?_;refine qb (qA rfl) ?_;refine qe ?_;refine qC rfl (qH qh (sp288 q p ts cs n hn qd hpl) rfl ?_);rintro _ _ ⟨a,c,rfl,rfl⟩;refine qe ?_;refine qb (qP rfl) ?_;refine qb (qP rfl) ?_;refine qC rfl (qZ fun b6=>?_);refine q6 (wc rfl rfl rfl rfl ?_);refine qi ?_;refine qx (qv (qw (qu (qb (qE rfl) ?_))));refine qb (qA rfl) ?_;refine qb (qE rfl) ?_;refine qb (qA rfl) ?_;refine qb (wy (.one qg rfl (.one qg rfl (.one qg rfl .nil)))) ?_;refine q6 (wc rfl rfl rfl rfl ?_);refine qo (qx (qv (qL ?_)));refine wu rfl rfl (wJ rfl) (qD qg) _ ⟨⟨a,c,(cs.getD n dCm).ps,(cs.getD n dCm).tree,1024,0,⟨#[]⟩⟩,rfl,rfl,by unfold genV;rw [if_neg qd],rfl⟩ qm
theorem sp122 (v q p x:Nat) (ts:List Tr) (cs:List Cm) (ls:List Lk) (gs:List Ly) (V:VwOk ts cs ls gs) (n:Nat) (hn:n<cs.length):Spec Tryz.prog 122 #[ptr v,.int .i64 n]
    (fun T=>viw v q x::sto q p ts cs::idx x p ls gs::T) (fun r T L=>∃a c,r=.slice a (cs.getD n dCm).ps.length c∧L=rdi a (cs.getD n dCm).ps.length c (cs.getD n dCm).ps::viw v q x::sto q p ts cs::idx x p ls gs::T):=by
  refine spec_of (n:=15) (args:=[ptr v,.int .i64 n]) Tryz.func122 rfl rfl rfl rfl fun T=>?_;refine qw (qu (qo (qx (qv (qw (qu (qe ?_)))))));refine qe ?_;refine qC rfl (qH qh (sp215 v q p x ts cs ls gs V n hn) rfl ?_);rintro _ _ ⟨r',rfl,hps,hgen,rfl⟩;refine qe ?_;refine qb (qP rfl) ?_;refine qb (qP rfl) ?_;refine qC rfl (qZ fun b5=>?_);refine q6 (wc rfl rfl rfl rfl ?_);refine qi ?_;refine qx (qv (qw (qu (qb (qE rfl) ?_))));refine qb (qA rfl) ?_;refine qi ?_;refine qx (qv (qL ?_));refine qM rfl rfl (qD qg) _ ⟨r'.a,r'.cap,by rw [←hps],rfl⟩ (fun w h=>by rw [←hps];exact Pm.sat qh w h)
theorem sp391 (v q p x:Nat) (ts:List Tr) (cs:List Cm) (ls:List Lk) (gs:List Ly) (V:VwOk ts cs ls gs) (n:Nat) (hn:n<cs.length):Spec Tryz.prog 391 #[ptr v,.int .i64 n]
    (fun T=>viw v q x::sto q p ts cs::idx x p ls gs::T) (fun r T L=>r=.int .i64 (genV gs n)∧L=viw v q x::sto q p ts cs::idx x p ls gs::T):=by
  refine spec_of (n:=15) (args:=[ptr v,.int .i64 n]) Tryz.func391 rfl rfl rfl rfl fun T=>?_;refine qw (qu (qo (qx (qv (qw (qu (qe ?_)))))));refine qe ?_;refine qC rfl (qH qh (sp215 v q p x ts cs ls gs V n hn) rfl ?_);rintro _ _ ⟨r',rfl,hps,hgen,rfl⟩;refine qe ?_;refine qb (qP rfl) ?_;refine qb (qP rfl) ?_;refine qC rfl (qZ fun b5=>?_);refine q6 (wc rfl rfl rfl rfl ?_);refine qi ?_;refine qx (qv (qw (qu (qb (qE rfl) ?_))));refine qb (qA rfl) ?_;refine qi ?_;refine qx (qv (qL ?_));refine qM rfl rfl (qD qg) _ ⟨by rw [←hgen],rfl⟩ qm
end
section
open Go
set_option maxRecDepth 4000
abbrev Qe:=Nat×Nat
abbrev dQ:Qe:=(0,0)
abbrev qel (e:Qe):List Value:=[N64 e.1,.int .u64 e.2]
abbrev qev (e:Qe):Value:=.agg (qel e).toArray
def qcells (hs:List Qe):List Value:=hs.flatMap qel
theorem qU:∀hs,(qcells hs).length=hs.length*2
  | []=>rfl
  | e::es=>by
    have:=qU es;simp only [qcells,List.flatMap_cons,List.length_append,List.length_cons,List.length_nil] at this ⊢;omega
theorem jd (a b:List Qe):qcells (a++b)=qcells a++qcells b:=by simp [qcells]
theorem qcells_at:∀(hs:List Qe) (k j:Nat),k<hs.length→j<2→(qcells hs)[k*2+j]?=(qel (hs.getD k dQ))[j]?
  | c::cs,0,j,_,hj=>by
    rcases j with _ | _ | j
    · rfl
    · rfl
    · omega
  | c::cs,k+1,j,h,hj=>by
    have:=qcells_at cs k j (by simpa using h) hj;rw [show (k+1)*2+j=k*2+j+1+1 by omega];exact this
theorem qat {hs:List Qe} {sp:List Value} {k:Nat} (hk:k<hs.length):∀j,j<2→(qcells hs++sp)[0+k*2+j]?=(qel (hs.getD k dQ))[j]?:=fun j hj=>by
  rw [Nat.zero_add,List.getElem?_append_left (by rw [qU];omega)];exact qcells_at hs k j hk hj
theorem qset {hs:List Qe} {sp:List Value} {k:Nat} {e:Qe} (hk:k<hs.length):setAll (qcells hs++sp) (0+k*2) (qel e)=qcells (hs.set k e)++sp:=by
  have e1:hs=hs.take k++hs.getD k dQ::hs.drop (k+1):=by simp [hk]
  have e2:hs.set k e=hs.take k++e::hs.drop (k+1):=by rw [List.set_eq_take_append_cons_drop,if_pos hk]
  have h1:qcells hs++sp=qcells (hs.take k)++qel (hs.getD k dQ)++(qcells (hs.drop (k+1))++sp):=by
    conv=>lhs;rw [e1]
    simp [qcells]
  have h2:qcells (hs.set k e)++sp=qcells (hs.take k)++qel e++(qcells (hs.drop (k+1))++sp):=by
    rw [e2];simp [qcells]
  have h3:0+k*2=(qcells (hs.take k)).length:=by rw [qU,List.length_take];omega
  rw [h1,h2,h3];exact zK _ _ _ _ rfl
def ky (hs:List Qe) (i:Nat):Nat:=(hs.getD i dQ).1
def HeapQ (hs:List Qe):Prop:=∀j,0<j→j<hs.length→ky hs j≤ky hs ((j-1)/2)
def UpQ (hs:List Qe) (i:Nat):Prop:=(∀j,0<j→j<hs.length→j≠i→ky hs j≤ky hs ((j-1)/2))∧(0<i→∀c,0<c→c<hs.length→(c-1)/2=i→ky hs c≤ky hs ((i-1)/2))
def DnQ (hs:List Qe) (i:Nat):Prop:=(∀j,0<j→j<hs.length→(j-1)/2≠i→ky hs j≤ky hs ((j-1)/2))∧(0<i→∀c,0<c→c<hs.length→(c-1)/2=i→ky hs c≤ky hs ((i-1)/2))
def sw (hs:List Qe) (i j:Nat):List Qe:=(hs.set i (hs.getD j dQ)).set j (hs.getD i dQ)
theorem xx (hs:List Qe) (i j:Nat):(sw hs i j).length=hs.length:=by simp [sw]
theorem ky_set {hs:List Qe} {i:Nat} {e:Qe} (hi:i<hs.length) (k:Nat):ky (hs.set i e) k=if k=i then e.1 else ky hs k:=by
  unfold ky;rw [List.getD_eq_getElem?_getD,List.getD_eq_getElem?_getD,List.getElem?_set]
  by_cases h:i=k
  · subst h;simp [hi]
  · rw [if_neg h,if_neg (Ne.symm h)]
theorem ky_sw {hs:List Qe} {i j:Nat} (hi:i<hs.length) (hj:j<hs.length) (k:Nat):ky (sw hs i j) k=if k=j then ky hs i else if k=i then ky hs j else ky hs k:=by
  rw [sw,ky_set (by simpa using hj),ky_set hi];rfl
theorem jV {hs:List Qe} {i j:Nat} (hi:i<hs.length) (hj:j<hs.length):(sw hs i j).Perm hs:=by
  have h:=Array.swap_perm (xs:=hs.toArray) (i:=i) (j:=j) (by simpa using hi) (by simpa using hj);have h2:=Array.perm_iff_toList_perm.1 h;rw [Array.toList_swap] at h2;have e:sw hs i j=(hs.set i hs[j]).set j hs[i]:=by simp [sw,hi,hj]
  rw [e];simpa using h2
theorem up_step {hs:List Qe} {i:Nat} (H:UpQ hs i) (h0:0<i) (hi:i<hs.length) (hle:ky hs ((i-1)/2)≤ky hs i):UpQ (sw hs i ((i-1)/2)) ((i-1)/2):=by
  have hu:(i-1)/2<i:=by omega
  have key:=ky_sw hi (show (i-1)/2<hs.length by omega)
  generalize hue:(i-1)/2=u at *
  refine ⟨fun j h1 h2 h3=>?_,fun h1 c h2 h3 h4=>?_⟩
  · rw [xx] at h2;rw [key,key,if_neg h3]
    by_cases e:j=i
    · subst e;rw [if_pos rfl,hue,if_pos rfl];exact hle
    · rw [if_neg e];have hj:=H.1 j h1 h2 e
      by_cases e2:(j-1)/2=u
      · rw [if_pos e2];rw [e2] at hj;omega
      · rw [if_neg e2]
        by_cases e3:(j-1)/2=i
        · rw [if_pos e3];have:=H.2 h0 j h1 h2 e3
          rwa [hue] at this
        · rw [if_neg e3];exact hj
  · rw [xx] at h3;have hp:=H.1 u h1 qd qd;rw [key,key,if_neg (show c≠u by omega),if_neg (show (u-1)/2≠u by omega),if_neg (show (u-1)/2≠i by omega)]
    by_cases e:c=i
    · rw [if_pos e];exact hp
    · rw [if_neg e];have:=H.1 c h2 h3 e;rw [h4] at this;omega
theorem up_stop {hs:List Qe} {i:Nat} (H:UpQ hs i) (h:i=0∨ky hs i≤ky hs ((i-1)/2)):HeapQ hs:=fun j h1 h2=>by
  by_cases e:j=i
  · subst e;rcases h with h | h
    · omega
    · exact h
  · exact H.1 j h1 h2 e
theorem up_start {hs:List Qe} {e:Qe} (H:HeapQ hs):UpQ (hs++[e]) hs.length:=by
  have hk:∀j,j<hs.length→ky (hs++[e]) j=ky hs j:=fun j hj=>by unfold ky;rw [xg hj]
  refine ⟨fun j h1 h2 h3=>?_,fun _ c h1 h2 h3=>?_⟩
  · simp at h2;rw [hk j qd,hk _ qd];exact H j h1 qd
  · simp at h2;omega
structure Fst (hs:List Qe) (i k f:Nat):Prop where
  lt:f=i∨f<hs.length
  at_:f=i∨(0<f∧(f-1)/2=i)
  ge:ky hs i≤ky hs f
  all:∀c,0<c→c<hs.length→(c-1)/2=i→c<k→ky hs c≤ky hs f
theorem dn_stop {hs:List Qe} {i k:Nat} (H:DnQ hs i) (F:Fst hs i k i) (hk:∀c,c<hs.length→(c-1)/2=i→c<k):HeapQ hs:=fun j h1 h2=>by
  by_cases e:(j-1)/2=i
  · rw [e];exact F.all j h1 h2 e (hk j h2 e)
  · exact H.1 j h1 h2 e
theorem dn_step {hs:List Qe} {i k f:Nat} (H:DnQ hs i) (F:Fst hs i k f) (hk:∀c,c<hs.length→(c-1)/2=i→c<k) (hne:f≠i):DnQ (sw hs i f) f:=by
  have hf:=F.at_.resolve_left hne;have hif:i<f:=by omega
  have hfl:f<hs.length:=F.lt.resolve_left hne;have key:=ky_sw (show i<hs.length by omega) hfl;refine ⟨fun j h1 h2 h3=>?_,fun h1 c h2 h3 h4=>?_⟩
  · rw [xx] at h2;rw [key,key,if_neg h3]
    by_cases e:j=f
    · subst e;rw [if_pos rfl,if_pos hf.2];exact F.ge
    · rw [if_neg e]
      by_cases e2:(j-1)/2=i
      · rw [if_pos e2,if_neg (show j≠i by omega)];exact F.all j h1 h2 e2 (hk j h2 e2)
      · rw [if_neg e2]
        by_cases e3:j=i
        · subst e3;rw [if_pos rfl];exact H.2 h1 f hf.1 hfl hf.2
        · rw [if_neg e3];exact H.1 j h1 h2 e2
  · rw [xx] at h3;rw [key,key,if_neg (show c≠f by omega),if_neg (show c≠i by omega),if_neg (show (f-1)/2≠f by omega),if_pos hf.2];have:=H.1 c h2 h3 qd
    rwa [h4] at this
theorem fst_start (hs:List Qe) (i:Nat):Fst hs i (2*i+1) i:=⟨.inl rfl,.inl rfl,Nat.le_refl _,fun c h1 h2 h3 h4=>by omega⟩
theorem fst_take {hs:List Qe} {i k f:Nat} (F:Fst hs i k f) (h1:2*i+1≤k) (h2:k≤2*i+2) (hk:k<hs.length) (h:ky hs f≤ky hs k):Fst hs i (k+1) k:=by
  refine ⟨.inr hk,.inr ⟨by omega,by omega⟩,by have:=F.ge;omega,fun c g1 g2 g3 g4=>?_⟩
  by_cases e:c=k
  · rw [e];exact Nat.le_refl _
  · have:=F.all c g1 g2 g3 qd;omega
theorem fst_keep {hs:List Qe} {i k f:Nat} (F:Fst hs i k f) (h:ky hs k≤ky hs f):Fst hs i (k+1) f:=by
  refine ⟨F.lt,F.at_,F.ge,fun c g1 g2 g3 g4=>?_⟩
  by_cases e:c=k
  · rw [e];exact h
  · exact F.all c g1 g2 g3 qd
theorem qsw {hs:List Qe} {sp:List Value} {i j:Nat} (hi:i<hs.length) (hj:j<hs.length):setAll (setAll (qcells hs++sp) (0+i*2) (qel (hs.getD j dQ))) (0+j*2) (qel (hs.getD i dQ))=qcells (sw hs i j)++sp:=by
  rw [qset hi,qset (by simpa using hj)];rfl
theorem heap_max {hs:List Qe} (H:HeapQ hs):∀j,j<hs.length→ky hs j≤ky hs 0
  | 0,_=>Nat.le_refl _
  | j+1,h=>by
    have h1:=H (j+1) qd h;have h2:=heap_max H ((j+1-1)/2) qd;omega
def popQ (hs:List Qe):List Qe:=(hs.set 0 (hs.getD (hs.length-1) dQ)).take (hs.length-1)
theorem yo (hs:List Qe):(popQ hs).length=hs.length-1:=by simp [popQ]
theorem popQ_perm {hs:List Qe} (h:0<hs.length):hs.Perm (hs.getD 0 dQ::popQ hs):=by
  match hs,h with
  | a::t,_ =>
    rcases List.eq_nil_or_concat t with rfl | ⟨t',b,rfl⟩
    · exact .refl _
    · have e:popQ (a::(t'++[b]))=b::t':=by
        have h1:(a::(t'++[b])).getD ((a::(t'++[b])).length-1) dQ=b:=by
          rw [show (a::(t'++[b])).length-1=(a::t').length by simp,show a::(t'++[b])=(a::t')++[b] from rfl,xK]
        rw [popQ,h1]
        simp
      rw [List.concat_eq_append,e];show (a::(t'++[b])).Perm (a::b::t');exact (List.perm_append_comm (l₁:=t') (l₂:=[b])).cons a
theorem qpop {hs:List Qe} {sp:List Value} (h:0<hs.length):setAll (setAll (qcells hs++sp) 0 (qel (hs.getD (hs.length-1) dQ))) (0+(hs.length-1)*2) (qel dQ)=qcells (popQ hs)++(qel dQ++sp):=by
  have e0:setAll (qcells hs++sp) 0 (qel (hs.getD (hs.length-1) dQ))=qcells (hs.set 0 (hs.getD (hs.length-1) dQ))++sp:=by
    have:=qset (sp:=sp) (e:=hs.getD (hs.length-1) dQ) h;simpa using this
  rw [e0,qset (by rw [List.length_set];omega)]
  generalize hg:hs.set 0 (hs.getD (hs.length-1) dQ)=g
  have hgl:g.length=hs.length:=by rw [←hg];simp
  have e1:g.set (hs.length-1) dQ=popQ hs++[dQ]:=by
    rw [List.set_eq_take_append_cons_drop,if_pos qd,popQ,hg,List.drop_eq_nil_of_le qd]
  rw [e1,jd];simp [qcells]
theorem popQ_dn {hs:List Qe} (H:HeapQ hs):DnQ (popQ hs) 0:=by
  have hk:∀j,0<j→j<hs.length-1→ky (popQ hs) j=ky hs j:=fun j h1 h2=>by
    unfold ky popQ;rw [List.getD_eq_getElem?_getD,List.getElem?_take_of_lt h2,List.getElem?_set_ne qd,List.getD_eq_getElem?_getD]
  refine ⟨fun j h1 h2 h3=>?_,fun h=>by omega⟩;rw [yo] at h2;rw [hk j h1 h2,hk _ qd qd];exact H j h1 qd
end
section
open Go
set_option maxRecDepth 4000
theorem mt_ofv {P:Program} {t:TypeId} {D:TypeDesc} {name:String} {g:FuncId} {info:TypeInfo} {s:TypeId} (hi:∀w,(typeInfo t).run P w=.ok info w) (hm:info.methods.find? (·.name == name)=some ⟨name,s,#[],some (g,false)⟩)
    (hu:TU P t D) (hD:(match D with | .pointer _=>false | _=>true)=true) (hpos:Nat.blt 0 (P.types.size+Made.depth)=true):MT P t name g:=⟨fun x w=>by
  obtain ⟨k,hk⟩:∃k,P.types.size+Made.depth=k+1:=⟨P.types.size+Made.depth-1,by have:=Nat.le_of_ble_eq_true hpos;omega⟩
  rw [hk];cases D<;>simp at hD<;>simp [method,hi,hm,follow,receiverAt,hu.u,Place.get]⟩
instance : MT Tryz.prog 294 "Before" 398:=mt_ofv (s:=476) Tryz.typeInfo294 qj inferInstance rfl qj
theorem sp398 (a b:Nat):Spec Tryz.prog 398 #[.int .i64 a,.int .i64 b]
    (fun T=>T) (fun r T L=>r=.bool (decide (b<a))∧L=T):=by
  refine spec_of (n:=8) (args:=[.int .i64 a,.int .i64 b]) Tryz.func398 rfl rfl rfl rfl fun T=>?_;refine qw (qu (qo (qx (qv (qw (qu (qe ?_)))))));refine qe ?_;refine qb (wS rfl rfl) ?_;refine qi ?_;refine qx (qv (qL ?_));refine qM rfl rfl (qD qg) _ ⟨congrArg Value.bool (by simp only [decide_eq_decide];omega),rfl⟩ qm
theorem sp322 (e f:Qe):Spec Tryz.prog 322 #[qev e,qev f]
    (fun T=>T) (fun r T L=>∃z:Bool,r=.bool (decide (z=true))∧(z=true→f.1≤e.1)∧(z=false→e.1≤f.1)∧L=T):=by
  refine spec_of (n:=25) (args:=[qev e,qev f]) Tryz.func322 rfl rfl rfl rfl fun T=>?_;refine qw (qu ?_);refine qC rfl (wx rfl fun b2=>?_);refine qC rfl (wx rfl fun b3=>?_);refine qo (qx (qv (qw (qw (qu (qb (qE rfl) ?_))))));refine qb (qA rfl) ?_;refine qb (xp qg qj) ?_;refine qb (qE rfl) ?_;refine qb (qA rfl) ?_;refine qC rfl (xA qh (sp398 e.1 f.1) rfl rfl ?_);rintro _ _ ⟨rfl,rfl⟩;refine qx (qv ?_);refine wx_if rfl (fun h10=>?_) (fun h10=>?_)
  · refine qw (qu (qo (qx (qv (qL ?_)))));refine wt ?_;refine qM rfl rfl (qD qg) _ ⟨true,congrArg Value.bool (by decide),fun _=>by omega,fun h=>absurd h (by decide),rfl⟩ qm
  · refine qF (qv (qw (qu (qb (qE rfl) ?_))));refine qb (qA rfl) ?_;refine qb (xp qg qj) ?_;refine qb (qE rfl) ?_;refine qb (qA rfl) ?_;refine qC rfl (xA qh (sp398 f.1 e.1) rfl rfl ?_);rintro _ _ ⟨rfl,rfl⟩;refine wG rfl (k5 rfl) (fun h17=>?_) (fun h17=>?_)
    · refine qe ?_;refine qq (qE rfl) ?_;refine qq (qA rfl) ?_;refine qq (qE rfl) ?_;refine qq (qA rfl) ?_;refine xO (qG rfl rfl rfl rfl) rfl (wj rfl rfl) (fun h23=>?_) (fun h23=>?_)
      · refine qb (q9 rfl qg) ?_;refine qi ?_;refine qx (qv (qL ?_));refine qM rfl rfl (qD qg) _ ⟨true,congrArg Value.bool (by decide),fun _=>by omega,fun h=>absurd h (by decide),rfl⟩ qm
      · refine qb (q9 rfl qg) ?_;refine qi ?_;refine qx (qv (qL ?_));refine qM rfl rfl (qD qg) _ ⟨false,congrArg Value.bool (by decide),fun h=>absurd h (by decide),fun _=>by omega,rfl⟩ qm
    · refine qe ?_;refine qs (qs (qs (qs (qs (qb (qW rfl qg) ?_)))));refine qi ?_;refine qx (qv (qL ?_));refine qM rfl rfl (qD qg) _ ⟨false,congrArg Value.bool (by decide),fun h=>absurd h (by decide),fun _=>by omega,rfl⟩ qm
theorem sp321 (b n c nx:Nat) (a:Option Addr):Spec Tryz.prog 321 #[ptr b]
    (fun T=>pt b (cl [.slice a n c,.int .u64 nx] 375)::T) (fun r T L=>r=.int .i64 n∧L=pt b (cl [.slice a n c,.int .u64 nx] 375)::T):=by
  refine spec_of (n:=10) (args:=[ptr b]) Tryz.func321 rfl rfl rfl rfl fun T=>?_;refine qw (qu (qo (qx (qv (qw (qw (qu ?_)))))));refine qe ?_;refine qb (wd rfl rfl) ?_;refine qx (qv (qB rfl ?_));refine qF (qv (qw (qu (qe ?_))));refine qb (qy rfl) ?_;refine qb (qE rfl) ?_;refine qb (qA rfl) ?_;refine qb (qI rfl) ?_;refine qi ?_;refine qx (qv (qL ?_));refine qM rfl rfl (qD qg) _ ⟨rfl,rfl⟩ qm
theorem sp270 (b n c nx:Nat) (a:Option Addr) (hs:List Qe) (hl:hs.length=n) (hn:n≤100000) (x:Nat) (HQ:HeapQ hs):Spec Tryz.prog 270 #[ptr b,.int .i64 x]
    (fun T=>pt b (cl [.slice a n c,.int .u64 nx] 375)::own (.slice a n c) 377 2 (qcells hs)::T) (fun r T L=>∃a' c' nx' hs',r=.tuple #[]∧HeapQ hs'∧hs'.Perm (hs++[(x,nx)])∧hs'.length=n+1∧L=pt b (cl [.slice a' (n+1) c',.int .u64 ((nx':Nat):Int)] 375)::own (.slice a' (n+1) c') 377 2 (qcells hs')::T):=by
  refine spec_of (n:=84) (args:=[ptr b,.int .i64 x]) Tryz.func270 rfl rfl rfl rfl fun T=>?_;refine qw (qw (qu (qe ?_)));refine qb (wd rfl rfl) ?_;refine qx (qv (qB rfl ?_));refine qF (qv (qw (wg [15] [pt b (cl [.slice a n c,.int .u64 nx] 375)] mixed qm 16 rfl ?_)));refine qp 0 rfl (qK qg) ?_;refine qp 1 rfl (qK qg) ?_;refine qp 2 rfl (qy rfl) ?_;refine qp 3 rfl (qE rfl) ?_;refine qk 4 rfl (qA rfl) ?_;refine qp 5 rfl (qK qg) ?_;refine qp 6 rfl (qK qg) ?_;refine qp 7 rfl (qy rfl) ?_;refine qp 8 rfl (qE rfl) ?_;refine qk 9 rfl (qA rfl) ?_;refine qp 10 rfl (wy (.one qg rfl (.one qg rfl .nil))) ?_;refine qO [11] qj rfl ⟨?_,trivial⟩;refine we rfl qz rfl (qS rfl (by first | decide | simp) (.agg rfl rfl .nil) fun b19=>?_);simp only [List.append_nil,List.cons_append,List.nil_append];refine ⟨.inr qm,?_⟩;refine qO [12] qj rfl ⟨?_,trivial⟩;refine we rfl qz rfl (wl qg qg qr rfl (by rfl) (by decide) (xc (k:=2) (ys:=[.int .i64 x,.int .u64 nx]) rfl) (onesK rfl) (fun _ _ _ h h'=>by cases h;omega) ?_);rintro _ _ _ a20 c20 ⟨⟩;rw [show qcells hs++[.int .i64 x,.int .u64 nx]=qcells (hs++[(x,nx)]) by rw [jd];rfl];refine ⟨.inr qm,?_⟩;refine qp 13 rfl (qy rfl) ?_;refine qp 14 rfl (qE rfl) ?_;refine qO [15] qj rfl ⟨?_,trivial⟩;refine wn rfl qz (qV rfl qg rfl ?_);refine ⟨.inl qj,?_⟩;refine qY qj ?_;refine qv (qw (qu (qe ?_)));refine qb (qy rfl) ?_;refine qb (qE rfl) ?_;refine qb (qA rfl) ?_;refine qb (zO (m:=nx) (j:=1) (q:=(nx+1)%2^64) rfl rfl rfl rfl rfl rfl) ?_;refine qb (qy rfl) ?_;refine qb (qE rfl) ?_;refine q6 (qV rfl qg rfl ?_);refine qx (qv (qw (qu (qe ?_))));refine qb (qy rfl) ?_;refine qb (qE rfl) ?_;refine qb (qA rfl) ?_;refine qb (qI rfl) ?_;refine qb (wT rfl rfl qd) ?_;rw [show (((n+1:Nat):Int)-1)=(n:Int) by omega];refine qi ?_;refine qx (qv (qJ (xY (a:=a20) (xs:=qcells (hs++[(x,nx)])) (E:=377) qr (by rw [qU];simp) fun bb sp ha hs1_ hs2_=>?_)));subst ha;rw [qU] at hs1_ hs2_;simp only [List.length_append,List.length_cons,List.length_nil] at hs1_ hs2_;refine q7 (fun m v L=>∃(i:Nat) (hs1:List Qe),i=m∧(∃v0,v=ups v0 [(0,ptr b),(4,.int .i64 i)])∧(hs1.length=n+1)∧(i<n+1)∧(UpQ hs1 i)∧(hs1.Perm (hs++[(x,nx)]))∧L=pt b (cl [.slice (some ⟨bb,0,none⟩) (n+1) c20,.int .u64 ((nx+1)%2^64:Nat)] 375)::pt bb (cl (qcells hs1++sp) 377)::T) _ _ ⟨n,hs++[(x,nx)],rfl,⟨_,At.eq (.cons rfl (.cons rfl .nil))⟩,by simp;omega,by omega,by rw [←hl];exact up_start HQ,.refl _,rfl⟩ qh ?_;rintro m _ _ ⟨i,hs1,rfl,⟨v0,rfl⟩,hl1,hi,hu,hp,rfl⟩;refine qw (qw (qu (qe ?_)));refine wG rfl (wS rfl rfl) (fun h37=>?_) (fun h37=>?_)
  · refine qx (qv (qN rfl ?_));refine qF (qv (qJ (qw (qu (qe ?_)))));refine qb (wT rfl rfl qd) ?_;refine qb (yU (m:=(i-1)) (j:=2) rfl rfl rfl (by decide) qd (wZ qd)) ?_;refine qi ?_;refine qx (qv (qw (qw (wg [] [pt b (cl [.slice (some ⟨bb,0,none⟩) (n+1) c20,.int .u64 ((nx+1)%2^64:Nat)] 375),pt bb (cl (qcells hs1++sp) 377)] mixed qm 16 rfl ?_))));refine qp 0 rfl (qK qg) ?_;refine qp 1 rfl (qy rfl) ?_;refine qp 2 rfl (qE rfl) ?_;refine qk 3 rfl (qA rfl) ?_;refine qp 4 rfl (qK qg) ?_;refine qp 5 rfl (wN (k:=i) rfl rfl qd qd) ?_;refine qk 6 rfl (wD (rs:=qel (hs1.getD i dQ)) rfl rfl (qat qd)) ?_;refine qp 7 rfl (qK qg) ?_;refine qp 8 rfl (qy rfl) ?_;refine qp 9 rfl (qE rfl) ?_;refine qk 10 rfl (qA rfl) ?_;refine qp 11 rfl (qK qg) ?_;refine qp 12 rfl (wN (k:=((i-1)/2)) rfl rfl qd qd) ?_;refine qk 13 rfl (wD (rs:=qel (hs1.getD ((i-1)/2) dQ)) rfl rfl (qat qd)) ?_;refine qO [14] qj rfl ⟨?_,trivial⟩;refine we rfl qz rfl (qH qh (sp322 (hs1.getD i dQ) (hs1.getD ((i-1)/2) dQ)) rfl ?_);rintro _ _ ⟨z,rfl,hz1,hz2,rfl⟩;refine ⟨.inr qm,?_⟩;refine yL 15 rfl qz rfl qj (k5 rfl) (fun h56=>?_) (fun h56=>?_)
    · have hheap:=up_stop hu (.inr (hz2 (by simpa using h56)));refine qY qj ?_;refine qv (qN rfl ?_);refine qL ?_;refine wt (wQ (wt (wQ ?_)));refine wM rfl rfl _ ⟨some ⟨bb,0,none⟩,c20,(nx+1)%2^64,hs1,rfl,hheap,hp,hl1,rfl⟩ (fun w h=>?_);have h2:=xC (n:=n+1) (cap:=c20) (k:=2) (by rw [qU];omega) (by rw [qU];omega) (Pm.sat (L':=pt bb (cl (qcells hs1++sp) 377)::_) (by repeat (first | with_reducible exact .refl | with_reducible exact .nil | with_reducible apply Pm.cons | with_reducible exact .here | with_reducible apply Sel.there | with_reducible apply Pm.drop)) w h);exact Pm.sat (by repeat (first | with_reducible exact .refl | with_reducible exact .nil | with_reducible apply Pm.cons | with_reducible exact .here | with_reducible apply Sel.there | with_reducible apply Pm.drop)) w h2
    · refine qY qj ?_;refine qv (qB rfl ?_);refine qF (qv (qw (wg [25] [pt b (cl [.slice (some ⟨bb,0,none⟩) (n+1) c20,.int .u64 ((nx+1)%2^64:Nat)] 375),pt bb (cl (qcells hs1++sp) 377)] mixed qm 28 rfl ?_)));refine qp 0 rfl (qK qg) ?_;refine qp 1 rfl (qy rfl) ?_;refine qp 2 rfl (qE rfl) ?_;refine qk 3 rfl (qA rfl) ?_;refine qp 4 rfl (qK qg) ?_;refine qp 5 rfl (qK qg) ?_;refine qp 6 rfl (qy rfl) ?_;refine qp 7 rfl (qE rfl) ?_;refine qk 8 rfl (qA rfl) ?_;refine qp 9 rfl (qK qg) ?_;refine qp 10 rfl (qK qg) ?_;refine qp 11 rfl (qy rfl) ?_;refine qp 12 rfl (qE rfl) ?_;refine qk 13 rfl (qA rfl) ?_;refine qp 14 rfl (qK qg) ?_;refine qp 15 rfl (wN (k:=((i-1)/2)) rfl rfl qd qd) ?_;refine qk 16 rfl (wD (rs:=qel (hs1.getD ((i-1)/2) dQ)) rfl rfl (qat qd)) ?_;refine qp 17 rfl (qK qg) ?_;refine qp 18 rfl (qy rfl) ?_;refine qp 19 rfl (qE rfl) ?_;refine qk 20 rfl (qA rfl) ?_;refine qp 21 rfl (qK qg) ?_;refine qp 22 rfl (wN (k:=i) rfl rfl qd qd) ?_;refine qk 23 rfl (wD (rs:=qel (hs1.getD i dQ)) rfl rfl (qat qd)) ?_;refine qp 24 rfl (wN (k:=i) rfl rfl qd qd) ?_;refine qO [25] qj rfl ⟨?_,trivial⟩;refine wn rfl qz (xl rfl rfl rfl rfl (by rw [List.length_append,qU];show 0+i*2+2≤_;omega) ?_);refine ⟨.inl qj,?_⟩;refine qp 26 rfl (wN (k:=((i-1)/2)) rfl rfl qd qd) ?_;refine qO [27] qj rfl ⟨?_,trivial⟩;refine wn rfl qz (xl rfl rfl rfl rfl (by rw [xL,List.length_append,qU];show 0+(i-1)/2*2+2≤_;omega) ?_);refine ⟨.inl qj,?_⟩;refine qY qj ?_;refine qv (qu (qe ?_));refine qi ?_;refine qx (qX ?_);refine qT _ _ ⟨(i-1)/2,sw hs1 i ((i-1)/2),rfl,⟨_,At.eq (.cons rfl (.cons rfl .nil))⟩,by rw [xx];omega,by omega,up_step hu qd qd (hz1 (Classical.not_not.1 h56)),(jV qd qd).trans hp,rfl⟩ qd (by rw [←qsw qd qd];repeat (first | exact .refl | exact .nil | apply Pm.cons | exact .here | apply Sel.there | apply Pm.drop))
  · have hheap:=up_stop hu (.inl qd);refine qx (qv (qB rfl ?_));refine wk ?_;refine qQ (qQ (ww ?_));refine wM rfl rfl _ ⟨some ⟨bb,0,none⟩,c20,(nx+1)%2^64,hs1,rfl,hheap,hp,hl1,rfl⟩ (fun w h=>?_);have h2:=xC (n:=n+1) (cap:=c20) (k:=2) (by rw [qU];omega) (by rw [qU];omega) (Pm.sat (L':=pt bb (cl (qcells hs1++sp) 377)::_) (by repeat (first | with_reducible exact .refl | with_reducible exact .nil | with_reducible apply Pm.cons | with_reducible exact .here | with_reducible apply Sel.there | with_reducible apply Pm.drop)) w h);exact Pm.sat (by repeat (first | with_reducible exact .refl | with_reducible exact .nil | with_reducible apply Pm.cons | with_reducible exact .here | with_reducible apply Sel.there | with_reducible apply Pm.drop)) w h2
theorem sp269 (b n c nx:Nat) (a:Option Addr) (hs:List Qe) (hl:hs.length=n) (hn:n≤100000) (HD:DnQ hs 0):Spec Tryz.prog 269 #[ptr b]
    (fun T=>pt b (cl [.slice a n c,.int .u64 nx] 375)::own (.slice a n c) 377 2 (qcells hs)::T) (fun r T L=>∃hs',r=.tuple #[]∧HeapQ hs'∧hs'.Perm hs∧hs'.length=n∧L=pt b (cl [.slice a n c,.int .u64 nx] 375)::own (.slice a n c) 377 2 (qcells hs')::T):=by
  refine spec_of (n:=71) (args:=[ptr b]) Tryz.func269 rfl rfl rfl rfl fun T=>?_;refine qw (qu (qo (qx (qv (qJ (q7 (fun m v L=>∃(i:Nat) (hs1:List Qe),n-i=m∧(∃v0,v=ups v0 [(0,ptr b),(2,.int .i64 i)])∧(hs1.length=n)∧(i≤n)∧(DnQ hs1 i)∧(hs1.Perm hs)∧L=pt b (cl [.slice a n c,.int .u64 nx] 375)::own (.slice a n c) 377 2 (qcells hs1)::T) _ _ ⟨0,hs,rfl,⟨_,At.eq (.cons rfl (.cons rfl .nil))⟩,hl,by omega,HD,.refl _,rfl⟩ qh ?_))))));rintro m _ _ ⟨i,hs1,rfl,⟨v0,rfl⟩,hl1,hi,hd,hp,rfl⟩;refine qJ (qw (qu (qe ?_)));refine qi ?_;refine qx (qv (qw (qw (qu (qe ?_)))));refine qb (yV rfl rfl qd) ?_;refine qb (wa rfl rfl qd) ?_;refine qi ?_;refine qx (qv (qJ (q7 (fun m v L=>∃(k f:Nat),2*i+3-k=m∧(∃v0,v=ups v0 [(0,ptr b),(2,.int .i64 i),(3,.int .i64 f),(4,.int .i64 k)])∧(2*i+1≤k)∧(k≤2*i+3)∧(Fst hs1 i k f)∧L=pt b (cl [.slice a n c,.int .u64 nx] 375)::own (.slice a n c) 377 2 (qcells hs1)::T) _ _ ⟨2*i+1,i,rfl,⟨_,At.eq (.cons rfl (.cons rfl (.cons rfl (.cons rfl .nil))))⟩,by omega,by omega,fst_start hs1 i,rfl⟩ qh ?_)));rintro m _ _ ⟨k,f,rfl,⟨v0,rfl⟩,hk1,hk2,hF,rfl⟩;refine qw (qw (qu (qe ?_)));refine qe ?_;refine qb (yV rfl rfl qd) ?_;refine qb (wa rfl rfl qd) ?_;refine wG rfl (yi rfl rfl) (fun h13=>?_) (fun h13=>?_)
  · refine qe ?_;refine qq (qK qg) ?_;refine qq (qK qg) ?_;refine qq (qy rfl) ?_;refine qq (qE rfl) ?_;refine qq (qA rfl) ?_;refine qq (qI rfl) ?_;refine xO (qG rfl rfl rfl rfl) rfl (wj rfl rfl) (fun h21=>?_) (fun h21=>?_)
    · refine qb (q9 rfl qg) ?_;refine qx (qv (qN rfl ?_));refine qF (qv (qw (qJ (qw (xY (a:=a) (xs:=qcells hs1) (E:=377) qr (by rw [qU];omega) fun bb sp ha hs1_ hs2_=>?_)))));subst ha;rw [qU] at hs1_ hs2_;have hfl:f<hs1.length:=by rcases hF.at_ with h | ⟨h,h2⟩<;>rcases hF.lt with h3 | h3<;>omega
      refine wg [] [pt b (cl [.slice (some ⟨bb,0,none⟩) n c,.int .u64 nx] 375),pt bb (cl (qcells hs1++sp) 377)] mixed qm 15 rfl ?_;refine qp 0 rfl (qK qg) ?_;refine qp 1 rfl (qy rfl) ?_;refine qp 2 rfl (qE rfl) ?_;refine qk 3 rfl (qA rfl) ?_;refine qp 4 rfl (qK qg) ?_;refine qp 5 rfl (wN (k:=k) rfl rfl qd qd) ?_;refine qk 6 rfl (wD (rs:=qel (hs1.getD k dQ)) rfl rfl (qat qd)) ?_;refine qp 7 rfl (qK qg) ?_;refine qp 8 rfl (qy rfl) ?_;refine qp 9 rfl (qE rfl) ?_;refine qk 10 rfl (qA rfl) ?_;refine qp 11 rfl (qK qg) ?_;refine qp 12 rfl (wN (k:=f) rfl rfl qd qd) ?_;refine qk 13 rfl (wD (rs:=qel (hs1.getD f dQ)) rfl rfl (qat hfl)) ?_;refine qO [14] qj rfl ⟨?_,trivial⟩;refine we rfl qz rfl (qH qh (sp322 (hs1.getD k dQ) (hs1.getD f dQ)) rfl ?_);rintro _ _ ⟨z,rfl,hz1,hz2,rfl⟩;refine ⟨.inr qm,?_⟩;refine qY qj ?_;refine qv ?_;refine wx_if rfl (fun h39=>?_) (fun h39=>?_)
      · refine qu (qe ?_);refine qi ?_;refine qx (qX (qv (qu (qe ?_))));refine qb (wa rfl rfl qd) ?_;refine qi ?_;refine qx (yW (fun w h=>xC (n:=n) (cap:=c) (k:=2) (by rw [qU];omega) (by rw [qU];omega) (Pm.sat (L':=pt bb (cl (qcells hs1++sp) 377)::_) (by repeat (first | with_reducible exact .refl | with_reducible exact .nil | with_reducible apply Pm.cons | with_reducible exact .here | with_reducible apply Sel.there | with_reducible apply Pm.drop)) w h)) ?_);refine qT _ _ ⟨k+1,k,rfl,⟨_,At.eq (.cons rfl (.cons rfl (.cons rfl (.cons rfl .nil))))⟩,by omega,by omega,fst_take hF hk1 qd qd (hz1 h39),rfl⟩ qd qh
      · refine qF (qX (qv (qu (qe ?_))));refine qb (wa rfl rfl qd) ?_;refine qi ?_;refine qx (yW (fun w h=>xC (n:=n) (cap:=c) (k:=2) (by rw [qU];omega) (by rw [qU];omega) (Pm.sat (L':=pt bb (cl (qcells hs1++sp) 377)::_) (by repeat (first | with_reducible exact .refl | with_reducible exact .nil | with_reducible apply Pm.cons | with_reducible exact .here | with_reducible apply Sel.there | with_reducible apply Pm.drop)) w h)) ?_);refine qT _ _ ⟨k+1,f,rfl,⟨_,At.eq (.cons rfl (.cons rfl (.cons rfl (.cons rfl .nil))))⟩,by omega,by omega,fst_keep hF (hz2 (by simpa using h39)),rfl⟩ qd qh
    · have hkk:∀j,j<hs1.length→(j-1)/2=i→j<k:=fun j h1 h2=>by omega
      refine qb (q9 rfl qg) ?_;refine qx (qv (qB rfl ?_));refine wk ?_;refine qQ (qQ (ww ?_));refine qv (qw (qw (qu (qe ?_))));refine qe ?_;refine wG rfl (wA rfl rfl) (fun h43=>?_) (fun h43=>?_)
      · obtain rfl:f=i:=by omega
        have hheap:=dn_stop hd hF hkk;refine qx (qv (qN rfl ?_));refine qL ?_;refine wt (wQ (wt (wQ ?_)));refine wM rfl rfl _ ⟨hs1,rfl,hheap,hp,hl1,rfl⟩ qm
      · refine qx (qv (qB rfl ?_));refine qF (qv (qw ?_));have hfl:f<hs1.length:=hF.lt.resolve_left qd;have hfi:i<f:=by have:=hF.at_.resolve_left qd;omega
        refine xY (a:=a) (xs:=qcells hs1) (E:=377) qr (by rw [qU];omega) fun bb sp ha hs1_ hs2_=>?_;subst ha;rw [qU] at hs1_ hs2_;refine wg [25] [pt b (cl [.slice (some ⟨bb,0,none⟩) n c,.int .u64 nx] 375),pt bb (cl (qcells hs1++sp) 377)] mixed qm 28 rfl ?_;refine qp 0 rfl (qK qg) ?_;refine qp 1 rfl (qy rfl) ?_;refine qp 2 rfl (qE rfl) ?_;refine qk 3 rfl (qA rfl) ?_;refine qp 4 rfl (qK qg) ?_;refine qp 5 rfl (qK qg) ?_;refine qp 6 rfl (qy rfl) ?_;refine qp 7 rfl (qE rfl) ?_;refine qk 8 rfl (qA rfl) ?_;refine qp 9 rfl (qK qg) ?_;refine qp 10 rfl (qK qg) ?_;refine qp 11 rfl (qy rfl) ?_;refine qp 12 rfl (qE rfl) ?_;refine qk 13 rfl (qA rfl) ?_;refine qp 14 rfl (qK qg) ?_;refine qp 15 rfl (wN (k:=f) rfl rfl qd qd) ?_;refine qk 16 rfl (wD (rs:=qel (hs1.getD f dQ)) rfl rfl (qat hfl)) ?_;refine qp 17 rfl (qK qg) ?_;refine qp 18 rfl (qy rfl) ?_;refine qp 19 rfl (qE rfl) ?_;refine qk 20 rfl (qA rfl) ?_;refine qp 21 rfl (qK qg) ?_;refine qp 22 rfl (wN (k:=i) rfl rfl qd qd) ?_;refine qk 23 rfl (wD (rs:=qel (hs1.getD i dQ)) rfl rfl (qat qd)) ?_;refine qp 24 rfl (wN (k:=i) rfl rfl qd qd) ?_;refine qO [25] qj rfl ⟨?_,trivial⟩;refine wn rfl qz (xl rfl rfl rfl rfl (by rw [List.length_append,qU];show 0+i*2+2≤_;omega) ?_);refine ⟨.inl qj,?_⟩;refine qp 26 rfl (wN (k:=f) rfl rfl qd qd) ?_;refine qO [27] qj rfl ⟨?_,trivial⟩;refine wn rfl qz (xl rfl rfl rfl rfl (by rw [xL,List.length_append,qU];show 0+f*2+2≤_;omega) ?_);refine ⟨.inl qj,?_⟩;refine qY qj ?_;refine qv (qu (qe ?_));refine qi ?_;refine qx (qX ?_);rw [qsw qd hfl];refine yW (fun w h=>xC (n:=n) (cap:=c) (k:=2) (by rw [qU,xx];omega) (by rw [qU,xx];omega) (Pm.sat (L':=pt bb (cl (qcells (sw hs1 i f)++sp) 377)::_) (by repeat (first | with_reducible exact .refl | with_reducible exact .nil | with_reducible apply Pm.cons | with_reducible exact .here | with_reducible apply Sel.there | with_reducible apply Pm.drop)) w h)) ?_;refine qT _ _ ⟨f,sw hs1 i f,rfl,⟨_,At.eq (.cons rfl (.cons rfl .nil))⟩,by rw [xx];omega,by omega,dn_step hd hF hkk qd,(jV qd hfl).trans hp,rfl⟩ qd qh
  · have hkk:∀j,j<hs1.length→(j-1)/2=i→j<k:=fun j h1 h2=>by omega
    refine qe ?_;refine qs (qs (qs (qs (qs (qs (qs (qb (qW rfl qg) ?_)))))));refine qx (qv (qB rfl ?_));refine wk ?_;refine qQ (qQ (ww ?_));refine qv (qw (qw (qu (qe ?_))));refine qe ?_;refine wG rfl (wA rfl rfl) (fun h43=>?_) (fun h43=>?_)
    · obtain rfl:f=i:=by omega
      have hheap:=dn_stop hd hF hkk;refine qx (qv (qN rfl ?_));refine qL ?_;refine wt (wQ (wt (wQ ?_)));refine wM rfl rfl _ ⟨hs1,rfl,hheap,hp,hl1,rfl⟩ qm
    · refine qx (qv (qB rfl ?_));refine qF (qv (qw ?_));have hfl:f<hs1.length:=hF.lt.resolve_left qd;have hfi:i<f:=by have:=hF.at_.resolve_left qd;omega
      refine xY (a:=a) (xs:=qcells hs1) (E:=377) qr (by rw [qU];omega) fun bb sp ha hs1_ hs2_=>?_;subst ha;rw [qU] at hs1_ hs2_;refine wg [25] [pt b (cl [.slice (some ⟨bb,0,none⟩) n c,.int .u64 nx] 375),pt bb (cl (qcells hs1++sp) 377)] mixed qm 28 rfl ?_;refine qp 0 rfl (qK qg) ?_;refine qp 1 rfl (qy rfl) ?_;refine qp 2 rfl (qE rfl) ?_;refine qk 3 rfl (qA rfl) ?_;refine qp 4 rfl (qK qg) ?_;refine qp 5 rfl (qK qg) ?_;refine qp 6 rfl (qy rfl) ?_;refine qp 7 rfl (qE rfl) ?_;refine qk 8 rfl (qA rfl) ?_;refine qp 9 rfl (qK qg) ?_;refine qp 10 rfl (qK qg) ?_;refine qp 11 rfl (qy rfl) ?_;refine qp 12 rfl (qE rfl) ?_;refine qk 13 rfl (qA rfl) ?_;refine qp 14 rfl (qK qg) ?_;refine qp 15 rfl (wN (k:=f) rfl rfl qd qd) ?_;refine qk 16 rfl (wD (rs:=qel (hs1.getD f dQ)) rfl rfl (qat hfl)) ?_;refine qp 17 rfl (qK qg) ?_;refine qp 18 rfl (qy rfl) ?_;refine qp 19 rfl (qE rfl) ?_;refine qk 20 rfl (qA rfl) ?_;refine qp 21 rfl (qK qg) ?_;refine qp 22 rfl (wN (k:=i) rfl rfl qd qd) ?_;refine qk 23 rfl (wD (rs:=qel (hs1.getD i dQ)) rfl rfl (qat qd)) ?_;refine qp 24 rfl (wN (k:=i) rfl rfl qd qd) ?_;refine qO [25] qj rfl ⟨?_,trivial⟩;refine wn rfl qz (xl rfl rfl rfl rfl (by rw [List.length_append,qU];show 0+i*2+2≤_;omega) ?_);refine ⟨.inl qj,?_⟩;refine qp 26 rfl (wN (k:=f) rfl rfl qd qd) ?_;refine qO [27] qj rfl ⟨?_,trivial⟩;refine wn rfl qz (xl rfl rfl rfl rfl (by rw [xL,List.length_append,qU];show 0+f*2+2≤_;omega) ?_);refine ⟨.inl qj,?_⟩;refine qY qj ?_;refine qv (qu (qe ?_));refine qi ?_;refine qx (qX ?_);rw [qsw qd hfl];refine yW (fun w h=>xC (n:=n) (cap:=c) (k:=2) (by rw [qU,xx];omega) (by rw [qU,xx];omega) (Pm.sat (L':=pt bb (cl (qcells (sw hs1 i f)++sp) 377)::_) (by repeat (first | with_reducible exact .refl | with_reducible exact .nil | with_reducible apply Pm.cons | with_reducible exact .here | with_reducible apply Sel.there | with_reducible apply Pm.drop)) w h)) ?_;refine qT _ _ ⟨f,sw hs1 i f,rfl,⟨_,At.eq (.cons rfl (.cons rfl .nil))⟩,by rw [xx];omega,by omega,dn_step hd hF hkk qd,(jV qd hfl).trans hp,rfl⟩ qd qh
theorem sp268n (b c nx:Nat) (a:Option Addr):Spec Tryz.prog 268 #[ptr b]
    (fun T=>pt b (cl [.slice a 0 c,.int .u64 nx] 375)::T) (fun r T L=>r=.tuple #[.int .i64 0,.bool false]∧L=pt b (cl [.slice a 0 c,.int .u64 nx] 375)::T):=by
  refine spec_of (n:=16) (args:=[ptr b]) Tryz.func268 rfl rfl rfl rfl fun T=>?_;refine qw (qu (qo (qo (qx (qv (qw (qw ?_)))))));refine qu (qe ?_);refine qC rfl (qH qh (sp321 b 0 c nx a) rfl ?_);rintro _ _ ⟨rfl,rfl⟩;refine xb rfl (wA rfl rfl) rfl ?_;refine qx (qv (qN rfl ?_));refine qw (qu (qo (qx (qv (qw (qu (qe ?_)))))));refine qi ?_;refine qo (qx (qv (qL ?_)));refine wt ?_;refine wu rfl rfl (qD qg) (qD qg) _ ⟨rfl,rfl⟩ qm
theorem sp268y (b n c nx:Nat) (a:Option Addr) (hs:List Qe) (hl:hs.length=n) (hn:n≤100000) (h0:0<n):Spec Tryz.prog 268 #[ptr b]
    (fun T=>pt b (cl [.slice a n c,.int .u64 nx] 375)::own (.slice a n c) 377 2 (qcells hs)::T) (fun r T L=>r=.tuple #[.int .i64 (hs.getD 0 dQ).1,.bool true]∧L=pt b (cl [.slice a n c,.int .u64 nx] 375)::own (.slice a n c) 377 2 (qcells hs)::T):=by
  refine spec_of (n:=16) (args:=[ptr b]) Tryz.func268 rfl rfl rfl rfl fun T=>?_;refine xY (a:=a) (xs:=qcells hs) (E:=377) qr (by rw [qU];omega) fun bb sp ha hs1_ hs2_=>?_;subst ha;rw [qU] at hs1_ hs2_;refine qw (qu (qo (qo (qx (qv (qw (qw ?_)))))));refine qu (qe ?_);refine qC rfl (qH qh (sp321 b n c nx _) rfl ?_);rintro _ _ ⟨rfl,rfl⟩;refine wq rfl (wA rfl rfl) qd ?_;refine qx (qv (qB rfl ?_));refine qF (qv (qw (qu (qe ?_))));refine qb (qy rfl) ?_;refine qb (qE rfl) ?_;refine qb (qA rfl) ?_;refine qb (wN (k:=0) rfl rfl qd qd) ?_;refine qb (xB rfl) ?_;refine qb (q8 rfl (qat (hs:=hs) (sp:=sp) (k:=0) qd 0 (by decide))) ?_;refine qi ?_;refine qo (qx (qv (qL ?_)));refine wu rfl rfl (qD qg) (qD qg) _ ⟨rfl,rfl⟩ (fun w h=>?_);have h2:=xC (n:=n) (cap:=c) (k:=2) (by rw [qU];omega) (by rw [qU];omega) (Pm.sat (L':=pt bb (cl (qcells hs++sp) 377)::_) (by repeat (first | with_reducible exact .refl | with_reducible exact .nil | with_reducible apply Pm.cons | with_reducible exact .here | with_reducible apply Sel.there | with_reducible apply Pm.drop)) w h);exact Pm.sat (by repeat (first | with_reducible exact .refl | with_reducible exact .nil | with_reducible apply Pm.cons | with_reducible exact .here | with_reducible apply Sel.there | with_reducible apply Pm.drop)) w h2
theorem sp187n (b c nx:Nat) (a:Option Addr):Spec Tryz.prog 187 #[ptr b]
    (fun T=>pt b (cl [.slice a 0 c,.int .u64 nx] 375)::T) (fun r T L=>r=.tuple #[.int .i64 0,.bool false]∧L=pt b (cl [.slice a 0 c,.int .u64 nx] 375)::T):=by
  refine spec_of (n:=52) (args:=[ptr b]) Tryz.func187 rfl rfl rfl rfl fun T=>?_;refine qw (qu (qo (qo (qx (qv (qw (qu ?_)))))));refine qe ?_;refine qC rfl (qH qh (sp268n b c nx a) rfl ?_);rintro _ _ ⟨rfl,rfl⟩;refine qe ?_;refine qb (qP rfl) ?_;refine qb (qP rfl) ?_;refine qi ?_;refine qi ?_;refine qx (qv (qw (qw (qu (qe ?_)))));refine qb (xH rfl) ?_;refine qx (qv (qN rfl ?_));refine qw (qu (qe ?_));refine qi ?_;refine qo (qx (qv (qL ?_)));refine wt ?_;refine wu rfl rfl (qD qg) (qD qg) _ ⟨rfl,rfl⟩ qm
theorem sp187y (b n c nx:Nat) (a:Option Addr) (hs:List Qe) (hl:hs.length=n) (hn:n≤100000) (h0:0<n) (HQ:HeapQ hs):Spec Tryz.prog 187 #[ptr b]
    (fun T=>pt b (cl [.slice a n c,.int .u64 nx] 375)::own (.slice a n c) 377 2 (qcells hs)::T) (fun r T L=>∃a' hs',r=.tuple #[.int .i64 (hs.getD 0 dQ).1,.bool true]∧HeapQ hs'∧hs'.Perm (popQ hs)∧hs'.length=n-1∧L=pt b (cl [.slice a' (n-1) c,.int .u64 nx] 375)::own (.slice a' (n-1) c) 377 2 (qcells hs')::T):=by
  refine spec_of (n:=52) (args:=[ptr b]) Tryz.func187 rfl rfl rfl rfl fun T=>?_;refine qw (qu (qo (qo (qx (qv (qw (qu ?_)))))));refine qe ?_;refine qC rfl (qH qh (sp268y b n c nx a hs hl hn h0) rfl ?_);rintro _ _ ⟨rfl,rfl⟩;refine qe ?_;refine qb (qP rfl) ?_;refine qb (qP rfl) ?_;refine qi ?_;refine qi ?_;refine qx (qv (qw (qw (qu (qe ?_)))));refine qb (xe rfl) ?_;refine qx (qv (qB rfl ?_));refine qF (qv (qw (qu (qe ?_))));refine qb (qy rfl) ?_;refine qb (qE rfl) ?_;refine qb (qA rfl) ?_;refine qb (qI rfl) ?_;refine qb (wT rfl rfl qd) ?_;rw [show ((n:Int)-1)=((n-1:Nat):Int) by omega];refine qi ?_;refine qx (qv (qw (xY (a:=a) (xs:=qcells hs) (E:=377) qr (by rw [qU];omega) fun bb sp ha hs1_ hs2_=>?_)));subst ha;rw [qU] at hs1_ hs2_;refine wg [12] [pt b (cl [.slice (some ⟨bb,0,none⟩) n c,.int .u64 nx] 375),pt bb (cl (qcells hs++sp) 377)] mixed qm 13 rfl ?_;refine qp 0 rfl (qK qg) ?_;refine qp 1 rfl (qy rfl) ?_;refine qp 2 rfl (qE rfl) ?_;refine qk 3 rfl (qA rfl) ?_;refine qp 4 rfl (qK qg) ?_;refine qp 5 rfl (qy rfl) ?_;refine qp 6 rfl (qE rfl) ?_;refine qk 7 rfl (qA rfl) ?_;refine qp 8 rfl (qK qg) ?_;refine qp 9 rfl (wN (k:=(n-1)) rfl rfl qd qd) ?_;refine qk 10 rfl (wD (rs:=qel (hs.getD (n-1) dQ)) rfl rfl (qat qd)) ?_;refine qp 11 rfl (wN (k:=0) rfl rfl qd qd) ?_;refine qO [12] qj rfl ⟨?_,trivial⟩;refine wn rfl qz (xl rfl rfl rfl rfl (by rw [List.length_append,qU];show 0+0*2+2≤_;omega) ?_);refine ⟨.inl qj,?_⟩;refine qY qj ?_;refine qv (qw (qu (qe ?_)));refine qb (qy rfl) ?_;refine qb (qE rfl) ?_;refine qb (qA rfl) ?_;refine qe ?_;refine qb (wy .nil) ?_;refine qb (wN (k:=(n-1)) rfl rfl qd qd) ?_;refine q6 (xl rfl rfl rfl rfl (by rw [xL,List.length_append,qU];show 0+(n-1)*2+2≤_;omega) ?_);refine qx (qv (qw (qu (qe ?_))));refine qe ?_;refine qb (qy rfl) ?_;refine qb (qE rfl) ?_;refine qb (qA rfl) ?_;refine qe ?_;refine qb (xW rfl rfl (by rfl:_=((n-1:Nat):Int)) qd) ?_;refine qb (qy rfl) ?_;refine qb (qE rfl) ?_;refine q6 (qV rfl qg rfl ?_);refine qx (qv (qw ?_));have hqp:setAll (setAll (qcells hs++sp) (0+0*2) (qel (hs.getD (n-1) dQ))) (0+(n-1)*2) [.int .i64 0,.int .u64 0]=qcells (popQ hs)++(qel dQ++sp):=by
    have:=qpop (sp:=sp) (hs:=hs) qd;rw [hl] at this;exact this
  rw [hqp];refine w8 (fun w h=>xC (n:=n-1) (cap:=c) (k:=2) (by rw [qU,yo];omega) (by rw [qU,yo,List.length_append];show _+(2+_)=_;omega) (Pm.sat (L':=pt bb (cl (qcells (popQ hs)++(qel dQ++sp)) 377)::_) (by repeat (first | with_reducible exact .refl | with_reducible exact .nil | with_reducible apply Pm.cons | with_reducible exact .here | with_reducible apply Sel.there | with_reducible apply Pm.drop)) w h)) ?_;refine qu (qe ?_);refine qC rfl (qH qh (sp269 b (n-1) c nx _ (popQ hs) (by rw [yo];omega) qd (popQ_dn HQ)) rfl ?_);rintro _ _ ⟨hs',rfl,hh,hp,hl',rfl⟩;refine qx (qv (qw (qu (qe ?_))));refine qi ?_;refine qo (qx (qv (qL ?_)));refine wu rfl rfl (qD qg) (qD qg) _ ⟨some ⟨bb,0,none⟩,hs',rfl,hh,hp,hl',rfl⟩ qm
end
section
open Go
set_option maxRecDepth 4000
instance : MT Tryz.prog 390 "Before" 400:=mt_ofv (s:=494) Tryz.typeInfo390 qj inferInstance rfl qj
theorem sp400 (a b:Nat):Spec Tryz.prog 400 #[.int .i64 a,.int .i64 b]
    (fun T=>T) (fun r T L=>r=.bool (decide (b<a))∧L=T):=by
  refine spec_of (n:=8) (args:=[.int .i64 a,.int .i64 b]) Tryz.func400 rfl rfl rfl rfl fun T=>?_;refine qw (qu (qo (qx (qv (qw (qu (qe ?_)))))));refine qe ?_;refine qb (wS rfl rfl) ?_;refine qi ?_;refine qx (qv (qL ?_));refine qM rfl rfl (qD qg) _ ⟨congrArg Value.bool (by simp only [decide_eq_decide];omega),rfl⟩ qm
theorem sp357 (e f:Qe):Spec Tryz.prog 357 #[qev e,qev f]
    (fun T=>T) (fun r T L=>∃z:Bool,r=.bool (decide (z=true))∧(z=true→f.1≤e.1)∧(z=false→e.1≤f.1)∧L=T):=by
  refine spec_of (n:=25) (args:=[qev e,qev f]) Tryz.func357 rfl rfl rfl rfl fun T=>?_;refine qw (qu ?_);refine qC rfl (wx rfl fun b2=>?_);refine qC rfl (wx rfl fun b3=>?_);refine qo (qx (qv (qw (qw (qu (qb (qE rfl) ?_))))));refine qb (qA rfl) ?_;refine qb (xp qg qj) ?_;refine qb (qE rfl) ?_;refine qb (qA rfl) ?_;refine qC rfl (xA qh (sp400 e.1 f.1) rfl rfl ?_);rintro _ _ ⟨rfl,rfl⟩;refine qx (qv ?_);refine wx_if rfl (fun h10=>?_) (fun h10=>?_)
  · refine qw (qu (qo (qx (qv (qL ?_)))));refine wt ?_;refine qM rfl rfl (qD qg) _ ⟨true,congrArg Value.bool (by decide),fun _=>by omega,fun h=>absurd h (by decide),rfl⟩ qm
  · refine qF (qv (qw (qu (qb (qE rfl) ?_))));refine qb (qA rfl) ?_;refine qb (xp qg qj) ?_;refine qb (qE rfl) ?_;refine qb (qA rfl) ?_;refine qC rfl (xA qh (sp400 f.1 e.1) rfl rfl ?_);rintro _ _ ⟨rfl,rfl⟩;refine wG rfl (k5 rfl) (fun h17=>?_) (fun h17=>?_)
    · refine qe ?_;refine qq (qE rfl) ?_;refine qq (qA rfl) ?_;refine qq (qE rfl) ?_;refine qq (qA rfl) ?_;refine xO (qG rfl rfl rfl rfl) rfl (wj rfl rfl) (fun h23=>?_) (fun h23=>?_)
      · refine qb (q9 rfl qg) ?_;refine qi ?_;refine qx (qv (qL ?_));refine qM rfl rfl (qD qg) _ ⟨true,congrArg Value.bool (by decide),fun _=>by omega,fun h=>absurd h (by decide),rfl⟩ qm
      · refine qb (q9 rfl qg) ?_;refine qi ?_;refine qx (qv (qL ?_));refine qM rfl rfl (qD qg) _ ⟨false,congrArg Value.bool (by decide),fun h=>absurd h (by decide),fun _=>by omega,rfl⟩ qm
    · refine qe ?_;refine qs (qs (qs (qs (qs (qb (qW rfl qg) ?_)))));refine qi ?_;refine qx (qv (qL ?_));refine qM rfl rfl (qD qg) _ ⟨false,congrArg Value.bool (by decide),fun h=>absurd h (by decide),fun _=>by omega,rfl⟩ qm
theorem sp371 (b n c nx:Nat) (a:Option Addr):Spec Tryz.prog 371 #[ptr b]
    (fun T=>pt b (cl [.slice a n c,.int .u64 nx] 442)::T) (fun r T L=>r=.int .i64 n∧L=pt b (cl [.slice a n c,.int .u64 nx] 442)::T):=by
  refine spec_of (n:=10) (args:=[ptr b]) Tryz.func371 rfl rfl rfl rfl fun T=>?_;refine qw (qu (qo (qx (qv (qw (qw (qu ?_)))))));refine qe ?_;refine qb (wd rfl rfl) ?_;refine qx (qv (qB rfl ?_));refine qF (qv (qw (qu (qe ?_))));refine qb (qy rfl) ?_;refine qb (qE rfl) ?_;refine qb (qA rfl) ?_;refine qb (qI rfl) ?_;refine qi ?_;refine qx (qv (qL ?_));refine qM rfl rfl (qD qg) _ ⟨rfl,rfl⟩ qm
theorem sp326 (b n c nx:Nat) (a:Option Addr) (hs:List Qe) (hl:hs.length=n) (hn:n≤100000) (x:Nat) (HQ:HeapQ hs):Spec Tryz.prog 326 #[ptr b,.int .i64 x]
    (fun T=>pt b (cl [.slice a n c,.int .u64 nx] 442)::own (.slice a n c) 479 2 (qcells hs)::T) (fun r T L=>∃a' c' nx' hs',r=.tuple #[]∧HeapQ hs'∧hs'.Perm (hs++[(x,nx)])∧hs'.length=n+1∧L=pt b (cl [.slice a' (n+1) c',.int .u64 ((nx':Nat):Int)] 442)::own (.slice a' (n+1) c') 479 2 (qcells hs')::T):=by
  refine spec_of (n:=84) (args:=[ptr b,.int .i64 x]) Tryz.func326 rfl rfl rfl rfl fun T=>?_;refine qw (qw (qu (qe ?_)));refine qb (wd rfl rfl) ?_;refine qx (qv (qB rfl ?_));refine qF (qv (qw (wg [15] [pt b (cl [.slice a n c,.int .u64 nx] 442)] mixed qm 16 rfl ?_)));refine qp 0 rfl (qK qg) ?_;refine qp 1 rfl (qK qg) ?_;refine qp 2 rfl (qy rfl) ?_;refine qp 3 rfl (qE rfl) ?_;refine qk 4 rfl (qA rfl) ?_;refine qp 5 rfl (qK qg) ?_;refine qp 6 rfl (qK qg) ?_;refine qp 7 rfl (qy rfl) ?_;refine qp 8 rfl (qE rfl) ?_;refine qk 9 rfl (qA rfl) ?_;refine qp 10 rfl (wy (.one qg rfl (.one qg rfl .nil))) ?_;refine qO [11] qj rfl ⟨?_,trivial⟩;refine we rfl qz rfl (qS rfl (by first | decide | simp) (.agg rfl rfl .nil) fun b19=>?_);simp only [List.append_nil,List.cons_append,List.nil_append];refine ⟨.inr qm,?_⟩;refine qO [12] qj rfl ⟨?_,trivial⟩;refine we rfl qz rfl (wl qg qg qr rfl (by rfl) (by decide) (xc (k:=2) (ys:=[.int .i64 x,.int .u64 nx]) rfl) (onesK rfl) (fun _ _ _ h h'=>by cases h;omega) ?_);rintro _ _ _ a20 c20 ⟨⟩;rw [show qcells hs++[.int .i64 x,.int .u64 nx]=qcells (hs++[(x,nx)]) by rw [jd];rfl];refine ⟨.inr qm,?_⟩;refine qp 13 rfl (qy rfl) ?_;refine qp 14 rfl (qE rfl) ?_;refine qO [15] qj rfl ⟨?_,trivial⟩;refine wn rfl qz (qV rfl qg rfl ?_);refine ⟨.inl qj,?_⟩;refine qY qj ?_;refine qv (qw (qu (qe ?_)));refine qb (qy rfl) ?_;refine qb (qE rfl) ?_;refine qb (qA rfl) ?_;refine qb (zO (m:=nx) (j:=1) (q:=(nx+1)%2^64) rfl rfl rfl rfl rfl rfl) ?_;refine qb (qy rfl) ?_;refine qb (qE rfl) ?_;refine q6 (qV rfl qg rfl ?_);refine qx (qv (qw (qu (qe ?_))));refine qb (qy rfl) ?_;refine qb (qE rfl) ?_;refine qb (qA rfl) ?_;refine qb (qI rfl) ?_;refine qb (wT rfl rfl qd) ?_;rw [show (((n+1:Nat):Int)-1)=(n:Int) by omega];refine qi ?_;refine qx (qv (qJ (xY (a:=a20) (xs:=qcells (hs++[(x,nx)])) (E:=479) qr (by rw [qU];simp) fun bb sp ha hs1_ hs2_=>?_)));subst ha;rw [qU] at hs1_ hs2_;simp only [List.length_append,List.length_cons,List.length_nil] at hs1_ hs2_;refine q7 (fun m v L=>∃(i:Nat) (hs1:List Qe),i=m∧(∃v0,v=ups v0 [(0,ptr b),(4,.int .i64 i)])∧(hs1.length=n+1)∧(i<n+1)∧(UpQ hs1 i)∧(hs1.Perm (hs++[(x,nx)]))∧L=pt b (cl [.slice (some ⟨bb,0,none⟩) (n+1) c20,.int .u64 ((nx+1)%2^64:Nat)] 442)::pt bb (cl (qcells hs1++sp) 479)::T) _ _ ⟨n,hs++[(x,nx)],rfl,⟨_,At.eq (.cons rfl (.cons rfl .nil))⟩,by simp;omega,by omega,by rw [←hl];exact up_start HQ,.refl _,rfl⟩ qh ?_;rintro m _ _ ⟨i,hs1,rfl,⟨v0,rfl⟩,hl1,hi,hu,hp,rfl⟩;refine qw (qw (qu (qe ?_)));refine wG rfl (wS rfl rfl) (fun h37=>?_) (fun h37=>?_)
  · refine qx (qv (qN rfl ?_));refine qF (qv (qJ (qw (qu (qe ?_)))));refine qb (wT rfl rfl qd) ?_;refine qb (yU (m:=(i-1)) (j:=2) rfl rfl rfl (by decide) qd (wZ qd)) ?_;refine qi ?_;refine qx (qv (qw (qw (wg [] [pt b (cl [.slice (some ⟨bb,0,none⟩) (n+1) c20,.int .u64 ((nx+1)%2^64:Nat)] 442),pt bb (cl (qcells hs1++sp) 479)] mixed qm 16 rfl ?_))));refine qp 0 rfl (qK qg) ?_;refine qp 1 rfl (qy rfl) ?_;refine qp 2 rfl (qE rfl) ?_;refine qk 3 rfl (qA rfl) ?_;refine qp 4 rfl (qK qg) ?_;refine qp 5 rfl (wN (k:=i) rfl rfl qd qd) ?_;refine qk 6 rfl (wD (rs:=qel (hs1.getD i dQ)) rfl rfl (qat qd)) ?_;refine qp 7 rfl (qK qg) ?_;refine qp 8 rfl (qy rfl) ?_;refine qp 9 rfl (qE rfl) ?_;refine qk 10 rfl (qA rfl) ?_;refine qp 11 rfl (qK qg) ?_;refine qp 12 rfl (wN (k:=((i-1)/2)) rfl rfl qd qd) ?_;refine qk 13 rfl (wD (rs:=qel (hs1.getD ((i-1)/2) dQ)) rfl rfl (qat qd)) ?_;refine qO [14] qj rfl ⟨?_,trivial⟩;refine we rfl qz rfl (qH qh (sp357 (hs1.getD i dQ) (hs1.getD ((i-1)/2) dQ)) rfl ?_);rintro _ _ ⟨z,rfl,hz1,hz2,rfl⟩;refine ⟨.inr qm,?_⟩;refine yL 15 rfl qz rfl qj (k5 rfl) (fun h56=>?_) (fun h56=>?_)
    · have hheap:=up_stop hu (.inr (hz2 (by simpa using h56)));refine qY qj ?_;refine qv (qN rfl ?_);refine qL ?_;refine wt (wQ (wt (wQ ?_)));refine wM rfl rfl _ ⟨some ⟨bb,0,none⟩,c20,(nx+1)%2^64,hs1,rfl,hheap,hp,hl1,rfl⟩ (fun w h=>?_);have h2:=xC (n:=n+1) (cap:=c20) (k:=2) (by rw [qU];omega) (by rw [qU];omega) (Pm.sat (L':=pt bb (cl (qcells hs1++sp) 479)::_) (by repeat (first | with_reducible exact .refl | with_reducible exact .nil | with_reducible apply Pm.cons | with_reducible exact .here | with_reducible apply Sel.there | with_reducible apply Pm.drop)) w h);exact Pm.sat (by repeat (first | with_reducible exact .refl | with_reducible exact .nil | with_reducible apply Pm.cons | with_reducible exact .here | with_reducible apply Sel.there | with_reducible apply Pm.drop)) w h2
    · refine qY qj ?_;refine qv (qB rfl ?_);refine qF (qv (qw (wg [25] [pt b (cl [.slice (some ⟨bb,0,none⟩) (n+1) c20,.int .u64 ((nx+1)%2^64:Nat)] 442),pt bb (cl (qcells hs1++sp) 479)] mixed qm 28 rfl ?_)));refine qp 0 rfl (qK qg) ?_;refine qp 1 rfl (qy rfl) ?_;refine qp 2 rfl (qE rfl) ?_;refine qk 3 rfl (qA rfl) ?_;refine qp 4 rfl (qK qg) ?_;refine qp 5 rfl (qK qg) ?_;refine qp 6 rfl (qy rfl) ?_;refine qp 7 rfl (qE rfl) ?_;refine qk 8 rfl (qA rfl) ?_;refine qp 9 rfl (qK qg) ?_;refine qp 10 rfl (qK qg) ?_;refine qp 11 rfl (qy rfl) ?_;refine qp 12 rfl (qE rfl) ?_;refine qk 13 rfl (qA rfl) ?_;refine qp 14 rfl (qK qg) ?_;refine qp 15 rfl (wN (k:=((i-1)/2)) rfl rfl qd qd) ?_;refine qk 16 rfl (wD (rs:=qel (hs1.getD ((i-1)/2) dQ)) rfl rfl (qat qd)) ?_;refine qp 17 rfl (qK qg) ?_;refine qp 18 rfl (qy rfl) ?_;refine qp 19 rfl (qE rfl) ?_;refine qk 20 rfl (qA rfl) ?_;refine qp 21 rfl (qK qg) ?_;refine qp 22 rfl (wN (k:=i) rfl rfl qd qd) ?_;refine qk 23 rfl (wD (rs:=qel (hs1.getD i dQ)) rfl rfl (qat qd)) ?_;refine qp 24 rfl (wN (k:=i) rfl rfl qd qd) ?_;refine qO [25] qj rfl ⟨?_,trivial⟩;refine wn rfl qz (xl rfl rfl rfl rfl (by rw [List.length_append,qU];show 0+i*2+2≤_;omega) ?_);refine ⟨.inl qj,?_⟩;refine qp 26 rfl (wN (k:=((i-1)/2)) rfl rfl qd qd) ?_;refine qO [27] qj rfl ⟨?_,trivial⟩;refine wn rfl qz (xl rfl rfl rfl rfl (by rw [xL,List.length_append,qU];show 0+(i-1)/2*2+2≤_;omega) ?_);refine ⟨.inl qj,?_⟩;refine qY qj ?_;refine qv (qu (qe ?_));refine qi ?_;refine qx (qX ?_);refine qT _ _ ⟨(i-1)/2,sw hs1 i ((i-1)/2),rfl,⟨_,At.eq (.cons rfl (.cons rfl .nil))⟩,by rw [xx];omega,by omega,up_step hu qd qd (hz1 (Classical.not_not.1 h56)),(jV qd qd).trans hp,rfl⟩ qd (by rw [←qsw qd qd];repeat (first | exact .refl | exact .nil | apply Pm.cons | exact .here | apply Sel.there | apply Pm.drop))
  · have hheap:=up_stop hu (.inl qd);refine qx (qv (qB rfl ?_));refine wk ?_;refine qQ (qQ (ww ?_));refine wM rfl rfl _ ⟨some ⟨bb,0,none⟩,c20,(nx+1)%2^64,hs1,rfl,hheap,hp,hl1,rfl⟩ (fun w h=>?_);have h2:=xC (n:=n+1) (cap:=c20) (k:=2) (by rw [qU];omega) (by rw [qU];omega) (Pm.sat (L':=pt bb (cl (qcells hs1++sp) 479)::_) (by repeat (first | with_reducible exact .refl | with_reducible exact .nil | with_reducible apply Pm.cons | with_reducible exact .here | with_reducible apply Sel.there | with_reducible apply Pm.drop)) w h);exact Pm.sat (by repeat (first | with_reducible exact .refl | with_reducible exact .nil | with_reducible apply Pm.cons | with_reducible exact .here | with_reducible apply Sel.there | with_reducible apply Pm.drop)) w h2
theorem sp359 (b n c nx:Nat) (a:Option Addr) (hs:List Qe) (hl:hs.length=n) (hn:n≤100000) (HD:DnQ hs 0):Spec Tryz.prog 359 #[ptr b]
    (fun T=>pt b (cl [.slice a n c,.int .u64 nx] 442)::own (.slice a n c) 479 2 (qcells hs)::T) (fun r T L=>∃hs',r=.tuple #[]∧HeapQ hs'∧hs'.Perm hs∧hs'.length=n∧L=pt b (cl [.slice a n c,.int .u64 nx] 442)::own (.slice a n c) 479 2 (qcells hs')::T):=by
  refine spec_of (n:=71) (args:=[ptr b]) Tryz.func359 rfl rfl rfl rfl fun T=>?_;refine qw (qu (qo (qx (qv (qJ (q7 (fun m v L=>∃(i:Nat) (hs1:List Qe),n-i=m∧(∃v0,v=ups v0 [(0,ptr b),(2,.int .i64 i)])∧(hs1.length=n)∧(i≤n)∧(DnQ hs1 i)∧(hs1.Perm hs)∧L=pt b (cl [.slice a n c,.int .u64 nx] 442)::own (.slice a n c) 479 2 (qcells hs1)::T) _ _ ⟨0,hs,rfl,⟨_,At.eq (.cons rfl (.cons rfl .nil))⟩,hl,by omega,HD,.refl _,rfl⟩ qh ?_))))));rintro m _ _ ⟨i,hs1,rfl,⟨v0,rfl⟩,hl1,hi,hd,hp,rfl⟩;refine qJ (qw (qu (qe ?_)));refine qi ?_;refine qx (qv (qw (qw (qu (qe ?_)))));refine qb (yV rfl rfl qd) ?_;refine qb (wa rfl rfl qd) ?_;refine qi ?_;refine qx (qv (qJ (q7 (fun m v L=>∃(k f:Nat),2*i+3-k=m∧(∃v0,v=ups v0 [(0,ptr b),(2,.int .i64 i),(3,.int .i64 f),(4,.int .i64 k)])∧(2*i+1≤k)∧(k≤2*i+3)∧(Fst hs1 i k f)∧L=pt b (cl [.slice a n c,.int .u64 nx] 442)::own (.slice a n c) 479 2 (qcells hs1)::T) _ _ ⟨2*i+1,i,rfl,⟨_,At.eq (.cons rfl (.cons rfl (.cons rfl (.cons rfl .nil))))⟩,by omega,by omega,fst_start hs1 i,rfl⟩ qh ?_)));rintro m _ _ ⟨k,f,rfl,⟨v0,rfl⟩,hk1,hk2,hF,rfl⟩;refine qw (qw (qu (qe ?_)));refine qe ?_;refine qb (yV rfl rfl qd) ?_;refine qb (wa rfl rfl qd) ?_;refine wG rfl (yi rfl rfl) (fun h13=>?_) (fun h13=>?_)
  · refine qe ?_;refine qq (qK qg) ?_;refine qq (qK qg) ?_;refine qq (qy rfl) ?_;refine qq (qE rfl) ?_;refine qq (qA rfl) ?_;refine qq (qI rfl) ?_;refine xO (qG rfl rfl rfl rfl) rfl (wj rfl rfl) (fun h21=>?_) (fun h21=>?_)
    · refine qb (q9 rfl qg) ?_;refine qx (qv (qN rfl ?_));refine qF (qv (qw (qJ (qw (xY (a:=a) (xs:=qcells hs1) (E:=479) qr (by rw [qU];omega) fun bb sp ha hs1_ hs2_=>?_)))));subst ha;rw [qU] at hs1_ hs2_;have hfl:f<hs1.length:=by rcases hF.at_ with h | ⟨h,h2⟩<;>rcases hF.lt with h3 | h3<;>omega
      refine wg [] [pt b (cl [.slice (some ⟨bb,0,none⟩) n c,.int .u64 nx] 442),pt bb (cl (qcells hs1++sp) 479)] mixed qm 15 rfl ?_;refine qp 0 rfl (qK qg) ?_;refine qp 1 rfl (qy rfl) ?_;refine qp 2 rfl (qE rfl) ?_;refine qk 3 rfl (qA rfl) ?_;refine qp 4 rfl (qK qg) ?_;refine qp 5 rfl (wN (k:=k) rfl rfl qd qd) ?_;refine qk 6 rfl (wD (rs:=qel (hs1.getD k dQ)) rfl rfl (qat qd)) ?_;refine qp 7 rfl (qK qg) ?_;refine qp 8 rfl (qy rfl) ?_;refine qp 9 rfl (qE rfl) ?_;refine qk 10 rfl (qA rfl) ?_;refine qp 11 rfl (qK qg) ?_;refine qp 12 rfl (wN (k:=f) rfl rfl qd qd) ?_;refine qk 13 rfl (wD (rs:=qel (hs1.getD f dQ)) rfl rfl (qat hfl)) ?_;refine qO [14] qj rfl ⟨?_,trivial⟩;refine we rfl qz rfl (qH qh (sp357 (hs1.getD k dQ) (hs1.getD f dQ)) rfl ?_);rintro _ _ ⟨z,rfl,hz1,hz2,rfl⟩;refine ⟨.inr qm,?_⟩;refine qY qj ?_;refine qv ?_;refine wx_if rfl (fun h39=>?_) (fun h39=>?_)
      · refine qu (qe ?_);refine qi ?_;refine qx (qX (qv (qu (qe ?_))));refine qb (wa rfl rfl qd) ?_;refine qi ?_;refine qx (yW (fun w h=>xC (n:=n) (cap:=c) (k:=2) (by rw [qU];omega) (by rw [qU];omega) (Pm.sat (L':=pt bb (cl (qcells hs1++sp) 479)::_) (by repeat (first | with_reducible exact .refl | with_reducible exact .nil | with_reducible apply Pm.cons | with_reducible exact .here | with_reducible apply Sel.there | with_reducible apply Pm.drop)) w h)) ?_);refine qT _ _ ⟨k+1,k,rfl,⟨_,At.eq (.cons rfl (.cons rfl (.cons rfl (.cons rfl .nil))))⟩,by omega,by omega,fst_take hF hk1 qd qd (hz1 h39),rfl⟩ qd qh
      · refine qF (qX (qv (qu (qe ?_))));refine qb (wa rfl rfl qd) ?_;refine qi ?_;refine qx (yW (fun w h=>xC (n:=n) (cap:=c) (k:=2) (by rw [qU];omega) (by rw [qU];omega) (Pm.sat (L':=pt bb (cl (qcells hs1++sp) 479)::_) (by repeat (first | with_reducible exact .refl | with_reducible exact .nil | with_reducible apply Pm.cons | with_reducible exact .here | with_reducible apply Sel.there | with_reducible apply Pm.drop)) w h)) ?_);refine qT _ _ ⟨k+1,f,rfl,⟨_,At.eq (.cons rfl (.cons rfl (.cons rfl (.cons rfl .nil))))⟩,by omega,by omega,fst_keep hF (hz2 (by simpa using h39)),rfl⟩ qd qh
    · have hkk:∀j,j<hs1.length→(j-1)/2=i→j<k:=fun j h1 h2=>by omega
      refine qb (q9 rfl qg) ?_;refine qx (qv (qB rfl ?_));refine wk ?_;refine qQ (qQ (ww ?_));refine qv (qw (qw (qu (qe ?_))));refine qe ?_;refine wG rfl (wA rfl rfl) (fun h43=>?_) (fun h43=>?_)
      · obtain rfl:f=i:=by omega
        have hheap:=dn_stop hd hF hkk;refine qx (qv (qN rfl ?_));refine qL ?_;refine wt (wQ (wt (wQ ?_)));refine wM rfl rfl _ ⟨hs1,rfl,hheap,hp,hl1,rfl⟩ qm
      · refine qx (qv (qB rfl ?_));refine qF (qv (qw ?_));have hfl:f<hs1.length:=hF.lt.resolve_left qd;have hfi:i<f:=by have:=hF.at_.resolve_left qd;omega
        refine xY (a:=a) (xs:=qcells hs1) (E:=479) qr (by rw [qU];omega) fun bb sp ha hs1_ hs2_=>?_;subst ha;rw [qU] at hs1_ hs2_;refine wg [25] [pt b (cl [.slice (some ⟨bb,0,none⟩) n c,.int .u64 nx] 442),pt bb (cl (qcells hs1++sp) 479)] mixed qm 28 rfl ?_;refine qp 0 rfl (qK qg) ?_;refine qp 1 rfl (qy rfl) ?_;refine qp 2 rfl (qE rfl) ?_;refine qk 3 rfl (qA rfl) ?_;refine qp 4 rfl (qK qg) ?_;refine qp 5 rfl (qK qg) ?_;refine qp 6 rfl (qy rfl) ?_;refine qp 7 rfl (qE rfl) ?_;refine qk 8 rfl (qA rfl) ?_;refine qp 9 rfl (qK qg) ?_;refine qp 10 rfl (qK qg) ?_;refine qp 11 rfl (qy rfl) ?_;refine qp 12 rfl (qE rfl) ?_;refine qk 13 rfl (qA rfl) ?_;refine qp 14 rfl (qK qg) ?_;refine qp 15 rfl (wN (k:=f) rfl rfl qd qd) ?_;refine qk 16 rfl (wD (rs:=qel (hs1.getD f dQ)) rfl rfl (qat hfl)) ?_;refine qp 17 rfl (qK qg) ?_;refine qp 18 rfl (qy rfl) ?_;refine qp 19 rfl (qE rfl) ?_;refine qk 20 rfl (qA rfl) ?_;refine qp 21 rfl (qK qg) ?_;refine qp 22 rfl (wN (k:=i) rfl rfl qd qd) ?_;refine qk 23 rfl (wD (rs:=qel (hs1.getD i dQ)) rfl rfl (qat qd)) ?_;refine qp 24 rfl (wN (k:=i) rfl rfl qd qd) ?_;refine qO [25] qj rfl ⟨?_,trivial⟩;refine wn rfl qz (xl rfl rfl rfl rfl (by rw [List.length_append,qU];show 0+i*2+2≤_;omega) ?_);refine ⟨.inl qj,?_⟩;refine qp 26 rfl (wN (k:=f) rfl rfl qd qd) ?_;refine qO [27] qj rfl ⟨?_,trivial⟩;refine wn rfl qz (xl rfl rfl rfl rfl (by rw [xL,List.length_append,qU];show 0+f*2+2≤_;omega) ?_);refine ⟨.inl qj,?_⟩;refine qY qj ?_;refine qv (qu (qe ?_));refine qi ?_;refine qx (qX ?_);rw [qsw qd hfl];refine yW (fun w h=>xC (n:=n) (cap:=c) (k:=2) (by rw [qU,xx];omega) (by rw [qU,xx];omega) (Pm.sat (L':=pt bb (cl (qcells (sw hs1 i f)++sp) 479)::_) (by repeat (first | with_reducible exact .refl | with_reducible exact .nil | with_reducible apply Pm.cons | with_reducible exact .here | with_reducible apply Sel.there | with_reducible apply Pm.drop)) w h)) ?_;refine qT _ _ ⟨f,sw hs1 i f,rfl,⟨_,At.eq (.cons rfl (.cons rfl .nil))⟩,by rw [xx];omega,by omega,dn_step hd hF hkk qd,(jV qd hfl).trans hp,rfl⟩ qd qh
  · have hkk:∀j,j<hs1.length→(j-1)/2=i→j<k:=fun j h1 h2=>by omega
    refine qe ?_;refine qs (qs (qs (qs (qs (qs (qs (qb (qW rfl qg) ?_)))))));refine qx (qv (qB rfl ?_));refine wk ?_;refine qQ (qQ (ww ?_));refine qv (qw (qw (qu (qe ?_))));refine qe ?_;refine wG rfl (wA rfl rfl) (fun h43=>?_) (fun h43=>?_)
    · obtain rfl:f=i:=by omega
      have hheap:=dn_stop hd hF hkk;refine qx (qv (qN rfl ?_));refine qL ?_;refine wt (wQ (wt (wQ ?_)));refine wM rfl rfl _ ⟨hs1,rfl,hheap,hp,hl1,rfl⟩ qm
    · refine qx (qv (qB rfl ?_));refine qF (qv (qw ?_));have hfl:f<hs1.length:=hF.lt.resolve_left qd;have hfi:i<f:=by have:=hF.at_.resolve_left qd;omega
      refine xY (a:=a) (xs:=qcells hs1) (E:=479) qr (by rw [qU];omega) fun bb sp ha hs1_ hs2_=>?_;subst ha;rw [qU] at hs1_ hs2_;refine wg [25] [pt b (cl [.slice (some ⟨bb,0,none⟩) n c,.int .u64 nx] 442),pt bb (cl (qcells hs1++sp) 479)] mixed qm 28 rfl ?_;refine qp 0 rfl (qK qg) ?_;refine qp 1 rfl (qy rfl) ?_;refine qp 2 rfl (qE rfl) ?_;refine qk 3 rfl (qA rfl) ?_;refine qp 4 rfl (qK qg) ?_;refine qp 5 rfl (qK qg) ?_;refine qp 6 rfl (qy rfl) ?_;refine qp 7 rfl (qE rfl) ?_;refine qk 8 rfl (qA rfl) ?_;refine qp 9 rfl (qK qg) ?_;refine qp 10 rfl (qK qg) ?_;refine qp 11 rfl (qy rfl) ?_;refine qp 12 rfl (qE rfl) ?_;refine qk 13 rfl (qA rfl) ?_;refine qp 14 rfl (qK qg) ?_;refine qp 15 rfl (wN (k:=f) rfl rfl qd qd) ?_;refine qk 16 rfl (wD (rs:=qel (hs1.getD f dQ)) rfl rfl (qat hfl)) ?_;refine qp 17 rfl (qK qg) ?_;refine qp 18 rfl (qy rfl) ?_;refine qp 19 rfl (qE rfl) ?_;refine qk 20 rfl (qA rfl) ?_;refine qp 21 rfl (qK qg) ?_;refine qp 22 rfl (wN (k:=i) rfl rfl qd qd) ?_;refine qk 23 rfl (wD (rs:=qel (hs1.getD i dQ)) rfl rfl (qat qd)) ?_;refine qp 24 rfl (wN (k:=i) rfl rfl qd qd) ?_;refine qO [25] qj rfl ⟨?_,trivial⟩;refine wn rfl qz (xl rfl rfl rfl rfl (by rw [List.length_append,qU];show 0+i*2+2≤_;omega) ?_);refine ⟨.inl qj,?_⟩;refine qp 26 rfl (wN (k:=f) rfl rfl qd qd) ?_;refine qO [27] qj rfl ⟨?_,trivial⟩;refine wn rfl qz (xl rfl rfl rfl rfl (by rw [xL,List.length_append,qU];show 0+f*2+2≤_;omega) ?_);refine ⟨.inl qj,?_⟩;refine qY qj ?_;refine qv (qu (qe ?_));refine qi ?_;refine qx (qX ?_);rw [qsw qd hfl];refine yW (fun w h=>xC (n:=n) (cap:=c) (k:=2) (by rw [qU,xx];omega) (by rw [qU,xx];omega) (Pm.sat (L':=pt bb (cl (qcells (sw hs1 i f)++sp) 479)::_) (by repeat (first | with_reducible exact .refl | with_reducible exact .nil | with_reducible apply Pm.cons | with_reducible exact .here | with_reducible apply Sel.there | with_reducible apply Pm.drop)) w h)) ?_;refine qT _ _ ⟨f,sw hs1 i f,rfl,⟨_,At.eq (.cons rfl (.cons rfl .nil))⟩,by rw [xx];omega,by omega,dn_step hd hF hkk qd,(jV qd hfl).trans hp,rfl⟩ qd qh
theorem sp358n (b c nx:Nat) (a:Option Addr):Spec Tryz.prog 358 #[ptr b]
    (fun T=>pt b (cl [.slice a 0 c,.int .u64 nx] 442)::T) (fun r T L=>r=.tuple #[.int .i64 0,.bool false]∧L=pt b (cl [.slice a 0 c,.int .u64 nx] 442)::T):=by
  refine spec_of (n:=16) (args:=[ptr b]) Tryz.func358 rfl rfl rfl rfl fun T=>?_;refine qw (qu (qo (qo (qx (qv (qw (qw ?_)))))));refine qu (qe ?_);refine qC rfl (qH qh (sp371 b 0 c nx a) rfl ?_);rintro _ _ ⟨rfl,rfl⟩;refine xb rfl (wA rfl rfl) rfl ?_;refine qx (qv (qN rfl ?_));refine qw (qu (qo (qx (qv (qw (qu (qe ?_)))))));refine qi ?_;refine qo (qx (qv (qL ?_)));refine wt ?_;refine wu rfl rfl (qD qg) (qD qg) _ ⟨rfl,rfl⟩ qm
theorem sp358y (b n c nx:Nat) (a:Option Addr) (hs:List Qe) (hl:hs.length=n) (hn:n≤100000) (h0:0<n):Spec Tryz.prog 358 #[ptr b]
    (fun T=>pt b (cl [.slice a n c,.int .u64 nx] 442)::own (.slice a n c) 479 2 (qcells hs)::T) (fun r T L=>r=.tuple #[.int .i64 (hs.getD 0 dQ).1,.bool true]∧L=pt b (cl [.slice a n c,.int .u64 nx] 442)::own (.slice a n c) 479 2 (qcells hs)::T):=by
  refine spec_of (n:=16) (args:=[ptr b]) Tryz.func358 rfl rfl rfl rfl fun T=>?_;refine xY (a:=a) (xs:=qcells hs) (E:=479) qr (by rw [qU];omega) fun bb sp ha hs1_ hs2_=>?_;subst ha;rw [qU] at hs1_ hs2_;refine qw (qu (qo (qo (qx (qv (qw (qw ?_)))))));refine qu (qe ?_);refine qC rfl (qH qh (sp371 b n c nx _) rfl ?_);rintro _ _ ⟨rfl,rfl⟩;refine wq rfl (wA rfl rfl) qd ?_;refine qx (qv (qB rfl ?_));refine qF (qv (qw (qu (qe ?_))));refine qb (qy rfl) ?_;refine qb (qE rfl) ?_;refine qb (qA rfl) ?_;refine qb (wN (k:=0) rfl rfl qd qd) ?_;refine qb (xB rfl) ?_;refine qb (q8 rfl (qat (hs:=hs) (sp:=sp) (k:=0) qd 0 (by decide))) ?_;refine qi ?_;refine qo (qx (qv (qL ?_)));refine wu rfl rfl (qD qg) (qD qg) _ ⟨rfl,rfl⟩ (fun w h=>?_);have h2:=xC (n:=n) (cap:=c) (k:=2) (by rw [qU];omega) (by rw [qU];omega) (Pm.sat (L':=pt bb (cl (qcells hs++sp) 479)::_) (by repeat (first | with_reducible exact .refl | with_reducible exact .nil | with_reducible apply Pm.cons | with_reducible exact .here | with_reducible apply Sel.there | with_reducible apply Pm.drop)) w h);exact Pm.sat (by repeat (first | with_reducible exact .refl | with_reducible exact .nil | with_reducible apply Pm.cons | with_reducible exact .here | with_reducible apply Sel.there | with_reducible apply Pm.drop)) w h2
theorem sp327n (b c nx:Nat) (a:Option Addr):Spec Tryz.prog 327 #[ptr b]
    (fun T=>pt b (cl [.slice a 0 c,.int .u64 nx] 442)::T) (fun r T L=>r=.tuple #[.int .i64 0,.bool false]∧L=pt b (cl [.slice a 0 c,.int .u64 nx] 442)::T):=by
  refine spec_of (n:=52) (args:=[ptr b]) Tryz.func327 rfl rfl rfl rfl fun T=>?_;refine qw (qu (qo (qo (qx (qv (qw (qu ?_)))))));refine qe ?_;refine qC rfl (qH qh (sp358n b c nx a) rfl ?_);rintro _ _ ⟨rfl,rfl⟩;refine qe ?_;refine qb (qP rfl) ?_;refine qb (qP rfl) ?_;refine qi ?_;refine qi ?_;refine qx (qv (qw (qw (qu (qe ?_)))));refine qb (xH rfl) ?_;refine qx (qv (qN rfl ?_));refine qw (qu (qe ?_));refine qi ?_;refine qo (qx (qv (qL ?_)));refine wt ?_;refine wu rfl rfl (qD qg) (qD qg) _ ⟨rfl,rfl⟩ qm
theorem sp327y (b n c nx:Nat) (a:Option Addr) (hs:List Qe) (hl:hs.length=n) (hn:n≤100000) (h0:0<n) (HQ:HeapQ hs):Spec Tryz.prog 327 #[ptr b]
    (fun T=>pt b (cl [.slice a n c,.int .u64 nx] 442)::own (.slice a n c) 479 2 (qcells hs)::T) (fun r T L=>∃a' hs',r=.tuple #[.int .i64 (hs.getD 0 dQ).1,.bool true]∧HeapQ hs'∧hs'.Perm (popQ hs)∧hs'.length=n-1∧L=pt b (cl [.slice a' (n-1) c,.int .u64 nx] 442)::own (.slice a' (n-1) c) 479 2 (qcells hs')::T):=by
  refine spec_of (n:=52) (args:=[ptr b]) Tryz.func327 rfl rfl rfl rfl fun T=>?_;refine qw (qu (qo (qo (qx (qv (qw (qu ?_)))))));refine qe ?_;refine qC rfl (qH qh (sp358y b n c nx a hs hl hn h0) rfl ?_);rintro _ _ ⟨rfl,rfl⟩;refine qe ?_;refine qb (qP rfl) ?_;refine qb (qP rfl) ?_;refine qi ?_;refine qi ?_;refine qx (qv (qw (qw (qu (qe ?_)))));refine qb (xe rfl) ?_;refine qx (qv (qB rfl ?_));refine qF (qv (qw (qu (qe ?_))));refine qb (qy rfl) ?_;refine qb (qE rfl) ?_;refine qb (qA rfl) ?_;refine qb (qI rfl) ?_;refine qb (wT rfl rfl qd) ?_;rw [show ((n:Int)-1)=((n-1:Nat):Int) by omega];refine qi ?_;refine qx (qv (qw (xY (a:=a) (xs:=qcells hs) (E:=479) qr (by rw [qU];omega) fun bb sp ha hs1_ hs2_=>?_)));subst ha;rw [qU] at hs1_ hs2_;refine wg [12] [pt b (cl [.slice (some ⟨bb,0,none⟩) n c,.int .u64 nx] 442),pt bb (cl (qcells hs++sp) 479)] mixed qm 13 rfl ?_;refine qp 0 rfl (qK qg) ?_;refine qp 1 rfl (qy rfl) ?_;refine qp 2 rfl (qE rfl) ?_;refine qk 3 rfl (qA rfl) ?_;refine qp 4 rfl (qK qg) ?_;refine qp 5 rfl (qy rfl) ?_;refine qp 6 rfl (qE rfl) ?_;refine qk 7 rfl (qA rfl) ?_;refine qp 8 rfl (qK qg) ?_;refine qp 9 rfl (wN (k:=(n-1)) rfl rfl qd qd) ?_;refine qk 10 rfl (wD (rs:=qel (hs.getD (n-1) dQ)) rfl rfl (qat qd)) ?_;refine qp 11 rfl (wN (k:=0) rfl rfl qd qd) ?_;refine qO [12] qj rfl ⟨?_,trivial⟩;refine wn rfl qz (xl rfl rfl rfl rfl (by rw [List.length_append,qU];show 0+0*2+2≤_;omega) ?_);refine ⟨.inl qj,?_⟩;refine qY qj ?_;refine qv (qw (qu (qe ?_)));refine qb (qy rfl) ?_;refine qb (qE rfl) ?_;refine qb (qA rfl) ?_;refine qe ?_;refine qb (wy .nil) ?_;refine qb (wN (k:=(n-1)) rfl rfl qd qd) ?_;refine q6 (xl rfl rfl rfl rfl (by rw [xL,List.length_append,qU];show 0+(n-1)*2+2≤_;omega) ?_);refine qx (qv (qw (qu (qe ?_))));refine qe ?_;refine qb (qy rfl) ?_;refine qb (qE rfl) ?_;refine qb (qA rfl) ?_;refine qe ?_;refine qb (xW rfl rfl (by rfl:_=((n-1:Nat):Int)) qd) ?_;refine qb (qy rfl) ?_;refine qb (qE rfl) ?_;refine q6 (qV rfl qg rfl ?_);refine qx (qv (qw ?_));have hqp:setAll (setAll (qcells hs++sp) (0+0*2) (qel (hs.getD (n-1) dQ))) (0+(n-1)*2) [.int .i64 0,.int .u64 0]=qcells (popQ hs)++(qel dQ++sp):=by
    have:=qpop (sp:=sp) (hs:=hs) qd;rw [hl] at this;exact this
  rw [hqp];refine w8 (fun w h=>xC (n:=n-1) (cap:=c) (k:=2) (by rw [qU,yo];omega) (by rw [qU,yo,List.length_append];show _+(2+_)=_;omega) (Pm.sat (L':=pt bb (cl (qcells (popQ hs)++(qel dQ++sp)) 479)::_) (by repeat (first | with_reducible exact .refl | with_reducible exact .nil | with_reducible apply Pm.cons | with_reducible exact .here | with_reducible apply Sel.there | with_reducible apply Pm.drop)) w h)) ?_;refine qu (qe ?_);refine qC rfl (qH qh (sp359 b (n-1) c nx _ (popQ hs) (by rw [yo];omega) qd (popQ_dn HQ)) rfl ?_);rintro _ _ ⟨hs',rfl,hh,hp,hl',rfl⟩;refine qx (qv (qw (qu (qe ?_))));refine qi ?_;refine qo (qx (qv (qL ?_)));refine wu rfl rfl (qD qg) (qD qg) _ ⟨some ⟨bb,0,none⟩,hs',rfl,hh,hp,hl',rfl⟩ qm
def quex (QT E b:Nat) (xs:List Nat):HProp:=ex fun y:(Option Addr×Nat×Nat)×List Qe =>
  box [lift (HeapQ y.2∧(y.2.map (·.1)).Perm xs),pt b (cl [.slice y.1.1 y.2.length y.1.2.1,.int .u64 y.1.2.2] QT),own (.slice y.1.1 y.2.length y.1.2.1) E 2 (qcells y.2)]
theorem sat_open_que {QT E b:Nat} {xs:List Nat} {L:List HProp} {w:World} (h:Sat (quex QT E b xs::L) w):∃a c nx hs,HeapQ hs∧(hs.map (·.1)).Perm xs∧Sat (pt b (cl [.slice a hs.length c,.int .u64 ((nx:Nat):Int)] QT)::own (.slice a hs.length c) E 2 (qcells hs)::L) w:=by
  obtain ⟨y,h⟩:=yb h;obtain ⟨⟨h1,h2⟩,h⟩:=yn (wF.sat h);exact ⟨_,_,_,_,h1,h2,h⟩
theorem zV {QT E b n c nx:Nat} {a:Option Addr} {hs:List Qe} {xs:List Nat} {L:List HProp} {w:World} (hl:hs.length=n) (h1:HeapQ hs) (h2:(hs.map (·.1)).Perm xs)
    (h:Sat (pt b (cl [.slice a n c,.int .u64 ((nx:Nat):Int)] QT)::own (.slice a n c) E 2 (qcells hs)::L) w):Sat (quex QT E b xs::L) w:=by
  subst hl;exact (ye (f:=fun y:(Option Addr×Nat×Nat)×List Qe=>box [lift (HeapQ y.2∧(y.2.map (·.1)).Perm xs),pt b (cl [.slice y.1.1 y.2.length y.1.2.1,.int .u64 y.1.2.2] QT),own (.slice y.1.1 y.2.length y.1.2.1) E 2 (qcells y.2)]) ((a,c,nx),hs)).sat (wi (L:=[_,_,_]).sat ((yZ ⟨h1,h2⟩).sat h))
theorem heap_nil:HeapQ []:=fun j h1 h2=>by simp at h2
theorem spec_que {P:Program} {f:FuncId} {args:Array Value} {QT E b:Nat} {xs:List Nat} {post:Value→List HProp→List HProp→Prop} (he:Enters P f)
    (h:∀a c nx hs,HeapQ hs→(hs.map (·.1)).Perm xs→∃post',Spec P f args (fun T=>pt b (cl [.slice a hs.length c,.int .u64 ((nx:Nat):Int)] QT)::own (.slice a hs.length c) E 2 (qcells hs)::T) post'∧∀r T L,post' r T L→∃L',post r T L'∧∀w,Sat L w→Sat L' w) :
    Spec P f args (fun T=>quex QT E b xs::T) post:=by
  refine ⟨he,fun T w hw=>?_⟩;obtain ⟨a,c,nx,hs,h1,h2,hw2⟩:=sat_open_que hw;obtain ⟨post',hs',hp⟩:=h a c nx hs h1 h2;exact (hs'.2 T w hw2).mono fun e w' ⟨r,L,he',hr,hL⟩=>let ⟨L',hr',hw'⟩:=hp r T L hr;⟨r,L',he',hr',hw' w' hL⟩
theorem qpush270 (b x:Nat) (xs:List Nat) (hl:xs.length≤100000):Spec Tryz.prog 270 #[ptr b,.int .i64 x] (fun T=>quex 375 377 b xs::T) (fun r T L=>r=.tuple #[]∧L=quex 375 377 b (x::xs)::T) :=
  spec_que ⟨_,Tryz.func270,rfl,rfl⟩ fun a c nx hs hH hp=>⟨_,sp270 b hs.length c nx a hs rfl (by have:=hp.length_eq;simp at this;omega) x hH,fun r T L ⟨a',c',nx',hs',h1,h2,h3,h4,h5⟩ =>
    ⟨_,⟨h1,rfl⟩,fun w hw=>by
      subst h5;refine zV h4 h2 ?_ hw;have h6:=h3.map (·.1);rw [List.map_append] at h6;exact (h6.trans (List.perm_append_comm)).trans (hp.cons x)⟩⟩
theorem qpop187n (b:Nat):Spec Tryz.prog 187 #[ptr b] (fun T=>quex 375 377 b []::T) (fun r T L=>r=.tuple #[.int .i64 0,.bool false]∧L=quex 375 377 b []::T) :=
  spec_que ⟨_,Tryz.func187,rfl,rfl⟩ fun a c nx hs hH hp=>by
    obtain rfl:hs=[]:=by have:=hp.length_eq;simpa using this
    have h:=sp187n b c nx a;exact ⟨_,⟨h.1,fun T w hw=>h.2 (own (.slice a 0 c) 377 2 (qcells [])::T) w hw⟩,fun r T L ⟨h1,h2⟩=>⟨_,⟨h1,rfl⟩,fun w hw=>by subst h2;exact zV (hs:=[]) rfl hH hp hw⟩⟩
theorem qpop187y (b:Nat) (xs:List Nat) (hl:xs.length≤100000) (hne:xs≠[]):Spec Tryz.prog 187 #[ptr b] (fun T=>quex 375 377 b xs::T) (fun r T L=>∃m ys,r=.tuple #[.int .i64 (m:Nat),.bool true]∧xs.Perm (m::ys)∧(∀y∈xs,y≤m)∧L=quex 375 377 b ys::T) :=
  spec_que ⟨_,Tryz.func187,rfl,rfl⟩ fun a c nx hs hH hp=>by
    have hlen:hs.length=xs.length:=by have:=hp.length_eq;simpa using this
    have h0:0<hs.length:=by rw [hlen];exact List.length_pos_iff.2 hne
    refine ⟨_,sp187y b hs.length c nx a hs rfl qd h0 hH,fun r T L ⟨a',hs',h1,h2,h3,h4,h5⟩=>?_⟩;have hpp:=(popQ_perm h0).map Prod.fst;refine ⟨_,⟨(hs.getD 0 dQ).1,(popQ hs).map Prod.fst,h1,hp.symm.trans hpp,fun y hy=>?_,rfl⟩,fun w hw=>by
      subst h5;exact zV h4 h2 (h3.map _) hw⟩
    obtain ⟨e,he,rfl⟩:=List.mem_map.1 (hp.mem_iff.2 hy);obtain ⟨j,hj,rfl⟩:=List.getElem_of_mem he;have:=heap_max hH j hj;simpa [ky,hj,h0] using this
theorem qpush326 (b x:Nat) (xs:List Nat) (hl:xs.length≤100000):Spec Tryz.prog 326 #[ptr b,.int .i64 x] (fun T=>quex 442 479 b xs::T) (fun r T L=>r=.tuple #[]∧L=quex 442 479 b (x::xs)::T) :=
  spec_que ⟨_,Tryz.func326,rfl,rfl⟩ fun a c nx hs hH hp=>⟨_,sp326 b hs.length c nx a hs rfl (by have:=hp.length_eq;simp at this;omega) x hH,fun r T L ⟨a',c',nx',hs',h1,h2,h3,h4,h5⟩ =>
    ⟨_,⟨h1,rfl⟩,fun w hw=>by
      subst h5;refine zV h4 h2 ?_ hw;have h6:=h3.map (·.1);rw [List.map_append] at h6;exact (h6.trans (List.perm_append_comm)).trans (hp.cons x)⟩⟩
theorem qpop327n (b:Nat):Spec Tryz.prog 327 #[ptr b] (fun T=>quex 442 479 b []::T) (fun r T L=>r=.tuple #[.int .i64 0,.bool false]∧L=quex 442 479 b []::T) :=
  spec_que ⟨_,Tryz.func327,rfl,rfl⟩ fun a c nx hs hH hp=>by
    obtain rfl:hs=[]:=by have:=hp.length_eq;simpa using this
    have h:=sp327n b c nx a;exact ⟨_,⟨h.1,fun T w hw=>h.2 (own (.slice a 0 c) 479 2 (qcells [])::T) w hw⟩,fun r T L ⟨h1,h2⟩=>⟨_,⟨h1,rfl⟩,fun w hw=>by subst h2;exact zV (hs:=[]) rfl hH hp hw⟩⟩
theorem qpop327y (b:Nat) (xs:List Nat) (hl:xs.length≤100000) (hne:xs≠[]):Spec Tryz.prog 327 #[ptr b] (fun T=>quex 442 479 b xs::T) (fun r T L=>∃m ys,r=.tuple #[.int .i64 (m:Nat),.bool true]∧xs.Perm (m::ys)∧(∀y∈xs,y≤m)∧L=quex 442 479 b ys::T) :=
  spec_que ⟨_,Tryz.func327,rfl,rfl⟩ fun a c nx hs hH hp=>by
    have hlen:hs.length=xs.length:=by have:=hp.length_eq;simpa using this
    have h0:0<hs.length:=by rw [hlen];exact List.length_pos_iff.2 hne
    refine ⟨_,sp327y b hs.length c nx a hs rfl qd h0 hH,fun r T L ⟨a',hs',h1,h2,h3,h4,h5⟩=>?_⟩;have hpp:=(popQ_perm h0).map Prod.fst;refine ⟨_,⟨(hs.getD 0 dQ).1,(popQ hs).map Prod.fst,h1,hp.symm.trans hpp,fun y hy=>?_,rfl⟩,fun w hw=>by
      subst h5;exact zV h4 h2 (h3.map _) hw⟩
    obtain ⟨e,he,rfl⟩:=List.mem_map.1 (hp.mem_iff.2 hy);obtain ⟨j,hj,rfl⟩:=List.getElem_of_mem he;have:=heap_max hH j hj;simpa [ky,hj,h0] using this
theorem sp267 :Spec Tryz.prog 267 #[.slice none 0 0]
    (fun T=>T) (fun r T L=>∃b,r=ptr b∧L=quex 375 377 b []::T):=by
  refine spec_of (n:=19) (args:=[.slice none 0 0]) Tryz.func267 rfl rfl rfl rfl fun T=>?_;refine qw (qu (qo (qx (qv (qw (qu (qb (wy .nil) ?_)))))));refine qC rfl (wx rfl fun b7=>?_);refine qi ?_;refine qx (qv (qw (qw (qu (qe ?_)))));refine qb (qI rfl) ?_;refine qb wH ?_;refine qx (qv (qJ (q7 (fun m v L=>0=m∧(∃v0,v=ups v0 [(3,ptr b7),(8,.slice none 0 0),(9,.int .i64 0),(10,.int .i64 0)])∧L=pt b7 (cl [.slice none 0 0,.int .u64 0] 375)::T) _ _ ⟨rfl,⟨_,At.eq (.cons rfl (.cons rfl (.cons rfl (.cons rfl .nil))))⟩,rfl⟩ qh ?_)));rintro m _ _ ⟨rfl,⟨v0,rfl⟩,rfl⟩;refine qw (qu (wq rfl (wj rfl rfl) qd ?_));refine qx (qv (qw (qB rfl ?_)));refine wk ?_;refine qQ (qQ (ww ?_));refine qv (qw (qu (qe ?_)));refine qi ?_;refine qx (qv (qL ?_));refine qM rfl rfl (qD qg) _ ⟨b7,rfl,rfl⟩ (fun w h=>?_);have h2:=wC (E:=377) (k:=2).sat h;exact zV (nx:=0) (hs:=[]) (n:=0) rfl heap_nil (.refl _) ((Pm.cons (.there .here) .refl).sat w h2)
theorem sp275 :Spec Tryz.prog 275 #[.slice none 0 0]
    (fun T=>T) (fun r T L=>∃b,r=ptr b∧L=quex 442 479 b []::T):=by
  refine spec_of (n:=19) (args:=[.slice none 0 0]) Tryz.func275 rfl rfl rfl rfl fun T=>?_;refine qw (qu (qo (qx (qv (qw (qu (qb (wy .nil) ?_)))))));refine qC rfl (wx rfl fun b7=>?_);refine qi ?_;refine qx (qv (qw (qw (qu (qe ?_)))));refine qb (qI rfl) ?_;refine qb wH ?_;refine qx (qv (qJ (q7 (fun m v L=>0=m∧(∃v0,v=ups v0 [(3,ptr b7),(8,.slice none 0 0),(9,.int .i64 0),(10,.int .i64 0)])∧L=pt b7 (cl [.slice none 0 0,.int .u64 0] 442)::T) _ _ ⟨rfl,⟨_,At.eq (.cons rfl (.cons rfl (.cons rfl (.cons rfl .nil))))⟩,rfl⟩ qh ?_)));rintro m _ _ ⟨rfl,⟨v0,rfl⟩,rfl⟩;refine qw (qu (wq rfl (wj rfl rfl) qd ?_));refine qx (qv (qw (qB rfl ?_)));refine wk ?_;refine qQ (qQ (ww ?_));refine qv (qw (qu (qe ?_)));refine qi ?_;refine qx (qv (qL ?_));refine qM rfl rfl (qD qg) _ ⟨b7,rfl,rfl⟩ (fun w h=>?_);have h2:=wC (E:=479) (k:=2).sat h;exact zV (nx:=0) (hs:=[]) (n:=0) rfl heap_nil (.refl _) ((Pm.cons (.there .here) .refl).sat w h2)
end
section
open Go
set_option maxRecDepth 4000
abbrev U64 (w:Nat):Value:=.int .u64 w
abbrev setA (b wb size n:Nat):HProp:=pt b (cl [.int .i64 size,.slice (some ⟨wb,0,none⟩) n n] 384)
abbrev wdsA (wb:Nat) (ws:List Nat):HProp:=pt wb (cl (ws.map U64) 199)
def hasB (ws:List Nat) (i:Nat):Bool:=(ws.getD (i/64) 0).testBit (i%64)
def wok (ws:List Nat):Prop:=∀k,ws.getD k 0<2^64
theorem bit_ne (w j:Nat):decide (((w >>> j &&& 1:Nat):Int)≠0)=w.testBit j:=by
  simp only [Nat.testBit,Nat.and_comm 1]
  by_cases h:w >>> j &&& 1=0
  · simp [h]
  · rw [decide_eq_true qd];exact (bne_iff_ne.2 h).symm
def putW (ws:List Nat) (i:Nat):List Nat:=ws.set (i/64) (ws.getD (i/64) 0 ||| (1 <<< (i%64)%2^IntKind.u64.bits))
theorem jK (ws:List Nat) (i:Nat):(putW ws i).length=ws.length:=by simp [putW]
theorem getD_set {α:Type} (l:List α) (i k:Nat) (x d:α) (h:i<l.length):(l.set i x).getD k d=if k=i then x else l.getD k d:=by
  simp only [List.getD_eq_getElem?_getD,List.getElem?_set]
  by_cases e:i=k
  · subst e;simp [h]
  · simp [e,Ne.symm e]
theorem putW_ok {ws:List Nat} {i:Nat} (h:wok ws) (hi:i/64<ws.length):wok (putW ws i):=by
  intro k;rw [putW,getD_set _ _ _ _ _ hi]
  split
  · exact Nat.or_lt_two_pow (h _) (Nat.mod_lt _ (by decide))
  · exact h k
theorem putW_has {ws:List Nat} {i:Nat} (hi:i/64<ws.length) (j:Nat):hasB (putW ws i) j=(hasB ws j || decide (j=i)):=by
  unfold hasB;rw [putW,getD_set _ _ _ _ _ hi];have hb:i%64<64:=Nat.mod_lt _ (by decide);have h1:(1 <<< (i%64)%2^IntKind.u64.bits)=2^(i%64):=by
    rw [Nat.one_shiftLeft];exact Nat.mod_eq_of_lt (Nat.pow_lt_pow_right (by decide) hb)
  rw [h1]
  by_cases e:j/64=i/64
  · simp only [e,if_true,Nat.testBit_or,Nat.testBit_two_pow]
    congr 1
    simp only [decide_eq_decide];omega
  · have:j≠i:=fun h=>e (by rw [h]);simp [e,this]
structure WS (size:Nat) (ws:List Nat):Prop where
  hs:size≤1048576
  hl:size≤64*ws.length
  hn:ws.length≤16384
  hw:wok ws
  hz:∀j,size≤j→hasB ws j=false
theorem WS.put {size i:Nat} {ws:List Nat} (h:WS size ws) (hi:i<size):WS size (putW ws i) :=
  have:=h.hl
  ⟨h.hs,by rw [jK];exact h.hl,by rw [jK];exact h.hn,putW_ok h.hw qd,fun j hj=>by rw [putW_has qd,h.hz j hj];simp;omega⟩
def NextIs (ws:List Nat) (size i:Nat) (z:Int):Prop :=
  (∃j:Nat,z=j∧i≤j∧j<size∧hasB ws j=true∧∀k,i≤k→k<j→hasB ws k=false)∨(z=-1∧∀k,i≤k→hasB ws k=false)
abbrev tabA:HProp:=rd 2 (.cells (Lib.deBruijn64tab.map U8).toArray 477 (0,0))
theorem ctz_bits {x:Nat} (h0:x≠0) (h:x<2^64):x.testBit (Lib.ctz 64 x)=true∧∀j,j<Lib.ctz 64 x→x.testBit j=false:=by
  obtain ⟨m,hm,_⟩:=Lib.ctzFrom_spec 64 x qd h;have e:Lib.ctz 64 x=Lib.ctzFrom 64 x:=by simp [Lib.ctz,h0]
  rw [e]
  generalize Lib.ctzFrom 64 x=c at hm
  subst hm;refine ⟨?_,fun j hj=>?_⟩
  · rw [Nat.mul_comm,Nat.testBit_mul_two_pow];simp
  · rw [Nat.mul_comm,Nat.testBit_mul_two_pow];simp;omega
theorem tz_at {x:Nat} (h0:x≠0) (h:x<2^64):((x &&& (2^IntKind.u64.bits-x))*285870213051353865%2^IntKind.u64.bits) >>> 58<64∧Lib.deBruijn64tab.getD (((x &&& (2^IntKind.u64.bits-x))*285870213051353865%2^IntKind.u64.bits) >>> 58) 0=Lib.ctz 64 x:=by
  show ((x &&& (2^64-x))*285870213051353865%2^64) >>> 58<64∧Lib.deBruijn64tab.getD (((x &&& (2^64-x))*285870213051353865%2^64) >>> 58) 0=Lib.ctz 64 x;obtain ⟨h1,h2⟩:=Lib.lowest_bit 64 x h0 h;have h3:=Lib.deBruijn64_at (Lib.ctz 64 x) h2;rw [h1,Nat.shiftRight_eq_div_pow];exact h3
theorem next_found {ws:List Nat} {size i k w:Nat} (H:WS size ws) (hk:k<ws.length) (hw0:w≠0) (hw:w<2^64)
    (hb:∀j,j<64→w.testBit j=((ws.getD k 0).testBit j&&decide (i≤64*k+j))) (hlow:∀j,i≤j→j<64*k→hasB ws j=false) :
    NextIs ws size i ((64*k+Lib.ctz 64 w:Nat):Int):=by
  obtain ⟨h1,h2⟩:=ctz_bits hw0 hw;have h3:=(Lib.lowest_bit 64 w hw0 hw).2;have h4:=hb _ h3;rw [h1] at h4;have h5:=h4.symm;simp only [Bool.and_eq_true,decide_eq_true_eq] at h5;have hh:hasB ws (64*k+Lib.ctz 64 w)=true:=by
    unfold hasB;rw [show (64*k+Lib.ctz 64 w)/64=k by omega,show (64*k+Lib.ctz 64 w)%64=Lib.ctz 64 w by omega];exact h5.1
  refine .inl ⟨_,rfl,h5.2,?_,hh,fun q hq1 hq2=>?_⟩
  · apply Nat.lt_of_not_le;intro hle;rw [H.hz _ hle] at hh;cases hh
  · by_cases hqk:q<64*k
    · exact hlow q hq1 hqk
    · have h6:=h2 (q%64) qd;rw [hb _ qd] at h6;unfold hasB;rw [show q/64=k by omega];have:i≤64*k+q%64:=by omega
      simpa [this] using h6
theorem next_step {ws:List Nat} {i k w:Nat} (hw0:w=0)
    (hb:∀j,j<64→w.testBit j=((ws.getD k 0).testBit j&&decide (i≤64*k+j))) (hlow:∀j,i≤j→j<64*k→hasB ws j=false) :
    ∀j,i≤j→j<64*(k+1)→hasB ws j=false:=by
  intro q h1 h2
  by_cases hqk:q<64*k
  · exact hlow q h1 hqk
  · have h6:=hb (q%64) qd;rw [hw0] at h6;unfold hasB;rw [show q/64=k by omega];have:i≤64*k+q%64:=by omega
    simpa [this] using h6.symm
theorem next_start {x i:Nat} (hx:x<2^64) (j:Nat) (hj:j<64):((x >>> (i%64)) <<< (i%64)%2^64).testBit j=(x.testBit j&&decide (i≤64*(i/64)+j)):=by
  rw [Nat.testBit_mod_two_pow,Nat.testBit_shiftLeft,Nat.testBit_shiftRight]
  by_cases h:i%64≤j
  · have h1:i≤64*(i/64)+j:=by omega
    have h2:i%64+(j-i%64)=j:=by omega
    simp [h,h1,hj,h2]
  · have h1:¬i≤64*(i/64)+j:=by omega
    simp [h,h1]
theorem filter_next {p:Nat→Bool} {i j:Nat} (hij:i≤j) (hj:p j=true) (h:∀k,i≤k→k<j→p k=false) :
    (List.range (j+1)).filter p=(List.range i).filter p++[j]:=by
  have h1:(List.range j).filter p=(List.range i).filter p:=by
    clear hj
    induction j with
    | zero =>
      have:i=0:=by omega
      subst this;rfl
    | succ j ih =>
      by_cases e:i=j+1
      · rw [e]
      · rw [List.range_succ,List.filter_append,ih qd (fun k h1 h2=>h k h1 qd)];simp [h j qd qd]
  rw [List.range_succ,List.filter_append,h1];simp [hj]
theorem filter_end {p:Nat→Bool} {i n:Nat} (hin:i≤n) (h:∀k,i≤k→p k=false):(List.range n).filter p=(List.range i).filter p:=by
  induction n with
  | zero =>
    have:i=0:=by omega
    subst this;rfl
  | succ n ih =>
    by_cases e:i=n+1
    · rw [e]
    · rw [List.range_succ,List.filter_append,ih qd];simp [h n qd]
def elems (size:Nat) (ws:List Nat):List Nat:=(List.range size).filter (hasB ws)
theorem has_new (n j:Nat):hasB (List.replicate n 0) j=false:=by
  unfold hasB;have:(List.replicate n 0).getD (j/64) 0=0:=by
    simp only [List.getD_eq_getElem?_getD,List.getElem?_replicate];split<;>rfl
  rw [this];simp
theorem ws_new {size:Nat} (hs:size≤1048576):WS size (List.replicate ((size+63)/64) 0) :=
  ⟨hs,by simp;omega,by simp;omega,fun k=>by
    have:(List.replicate ((size+63)/64) 0).getD k 0=0:=by
      simp only [List.getD_eq_getElem?_getD,List.getElem?_replicate];split<;>rfl
    rw [this];decide,fun j _=>has_new _ j⟩
theorem elems_length (size:Nat) (ws:List Nat):(elems size ws).length≤size:=by
  have:=List.length_filter_le (hasB ws) (List.range size);simpa [elems] using this
theorem sp205 (b:Nat) (s:Int) (x:Value) (E:TypeId):Spec Tryz.prog 205 #[.pointer (some ⟨b,0,none⟩)]
    (fun T=>pt b (cl [.int .i64 s,x] E)::T) (fun r T L=>r=.int .i64 s∧L=pt b (cl [.int .i64 s,x] E)::T):=by
  refine spec_of (n:=9) (args:=[.pointer (some ⟨b,0,none⟩)]) Tryz.func205 rfl rfl rfl rfl fun T=>?_;refine qw (qu (qo (qx (qv (qw (qw (qu ?_)))))));refine qe ?_;refine qb (wd rfl rfl) ?_;refine qx (qv (qB rfl ?_));refine qF (qv (qw (qu (qe ?_))));refine qb (qy rfl) ?_;refine qb (qE rfl) ?_;refine qb (qA rfl) ?_;refine qi ?_;refine qx (qv (qL ?_));refine qM rfl rfl (qD qg) _ ⟨rfl,rfl⟩ qm
theorem sp195 (b wb size i:Nat) (ws:List Nat) (H:WS size ws) (hi:i<size):Spec Tryz.prog 195 #[.pointer (some ⟨b,0,none⟩),.int .i64 i]
    (fun T=>setA b wb size ws.length::wdsA wb ws::T) (fun r T L=>r=.bool (hasB ws i)∧L=setA b wb size ws.length::wdsA wb ws::T):=by
  refine spec_of (n:=28) (args:=[.pointer (some ⟨b,0,none⟩),.int .i64 i]) Tryz.func195 rfl rfl rfl rfl fun T=>?_;obtain ⟨hs,hl,hn,hw,hz⟩:=id H;refine qw (qu (qo (qx (qv (qw (qu (qe ?_)))))));refine xb rfl (w9 rfl rfl) qd ?_;refine qe ?_;refine qq (qK qg) ?_;refine qq (qK qg) ?_;refine xr (qG rfl rfl rfl rfl) rfl (qH qh (sp205 _ _ _ _) rfl ?_);rintro _ _ ⟨rfl,rfl⟩;refine yq (qG rfl rfl rfl rfl) rfl (wj rfl rfl) qd ?_;refine qb (q9 rfl qg) ?_;refine qe ?_;refine qq (qK qg) ?_;refine qq (qy rfl) ?_;refine qq (qE rfl) ?_;refine qq (qA rfl) ?_;refine qq (qK qg) ?_;refine qq (yU (j:=64) rfl rfl rfl (by decide) rfl (wZ qd)) ?_;refine qq (wz rfl rfl rfl qd) ?_;refine qq (q8 rfl (at_map 0 qd)) ?_;refine qq (qK qg) ?_;refine qq (yT (j:=64) rfl rfl rfl (by decide) rfl) ?_;refine qq (yD rfl rfl rfl rfl (Nat.le_of_lt (Nat.mod_lt _ (by decide:0<64)))) ?_;refine qq (qt_andN (j:=1) rfl rfl rfl rfl rfl (zJ (hw _)) (by decide)) ?_;refine qq (wB rfl rfl) ?_;refine qb (q9 rfl qg) ?_;refine qi ?_;refine qx (qv (qL ?_));refine qM rfl rfl (qD qg) _ ⟨congrArg Value.bool (bit_ne _ _),rfl⟩ qm
theorem sp194 (b wb size i:Nat) (ws:List Nat) (H:WS size ws) (hi:i<size):Spec Tryz.prog 194 #[.pointer (some ⟨b,0,none⟩),.int .i64 i]
    (fun T=>setA b wb size ws.length::wdsA wb ws::T) (fun r T L=>r=.bool (!hasB ws i)∧∃ws',WS size ws'∧(∀j,hasB ws' j=(hasB ws j || decide (j=i)))∧L=setA b wb size ws'.length::wdsA wb ws'::T):=by
  refine spec_of (n:=31) (args:=[.pointer (some ⟨b,0,none⟩),.int .i64 i]) Tryz.func194 rfl rfl rfl rfl fun T=>?_;obtain ⟨hs,hl,hn,hw,hz⟩:=id H;refine qw (qu (qo (qx (qv (qw (qw (qu ?_)))))));refine qe ?_;refine wq rfl (wj rfl rfl) qd ?_;refine qe ?_;refine qq (qK qg) ?_;refine qq (qK qg) ?_;refine xr (qG rfl rfl rfl rfl) rfl (qH qh (sp205 _ _ _ _) rfl ?_);rintro _ _ ⟨rfl,rfl⟩;refine wR (qG rfl rfl rfl rfl) rfl (w9 rfl rfl) qd ?_;refine qb (qW rfl qg) ?_;refine qe ?_;refine qq (qK qg) ?_;refine qq (qK qg) ?_;refine xr (qG rfl rfl rfl rfl) rfl (qH qh (sp195 _ _ _ _ _ ‹_› qd) rfl ?_);rintro _ _ ⟨rfl,rfl⟩;refine qb (qW rfl qg) ?_;refine qx (qv ?_);refine yM rfl (fun h17=>?_) (fun h17=>?_)
  · refine qw (qu (qo (qx (qv (qL ?_)))));refine wt ?_;refine qM rfl rfl (qD qg) _ ⟨by rw [h17];rfl,ws,H,fun j=>by by_cases e:j=i<;>simp [e,h17],rfl⟩ qm
  · refine qF (qv (qw (wg [13] _ mixed (fun w h=>h) 14 rfl ?_)));refine qk 0 rfl (qK qg) ?_;refine qk 1 rfl (qy rfl) ?_;refine qk 2 rfl (qE rfl) ?_;refine qk 3 rfl (qA rfl) ?_;refine qk 4 rfl (qK qg) ?_;refine qk 5 rfl (yU (j:=64) rfl rfl rfl (by decide) rfl (wZ qd)) ?_;refine qk 6 rfl (wz rfl rfl rfl qd) ?_;refine qk 7 rfl (q8 rfl (at_map 0 qd)) ?_;refine qk 8 rfl (qK qg) ?_;refine qk 9 rfl (yT (j:=64) rfl rfl rfl (by decide) rfl) ?_;refine qk 10 rfl (qt_shlN (m:=1) rfl rfl rfl rfl rfl (Nat.le_of_lt (Nat.mod_lt _ (by decide:0<64)))) ?_;refine qk 11 rfl (qt_orN rfl rfl rfl rfl rfl (hw _) (Nat.mod_lt _ (by decide))) ?_;refine qk 12 rfl (wz rfl rfl rfl qd) ?_;refine qO [13] qj rfl ⟨?_,trivial⟩;refine wn rfl qz (wW rfl qg rfl (by simp;omega) ?_);refine ⟨.inl qj,?_⟩;refine qY qj ?_;refine qv (qw (qu (qo (qx (qv (qL ?_))))));refine qM rfl rfl (qD qg) _ ⟨by rw [h17];rfl,putW ws i,H.put hi,putW_has qd,rfl⟩ (fun w h=>by rw [jK];simpa [putW,wdsA,List.map_set] using h)
theorem sp324 (x:Nat) (h0:x≠0) (hx:x<2^64):Spec Tryz.prog 324 #[.int .u64 x]
    (fun T=>tabA::T) (fun r T L=>r=.int .i64 (Lib.ctz 64 x)∧L=tabA::T):=by
  refine spec_of (n:=14) (args:=[.int .u64 x]) Tryz.func324 rfl rfl rfl rfl fun T=>?_;have hat:=tz_at h0 hx;refine qw (qu (qo (qx (qv (qw (qw (qu ?_)))))));refine qe ?_;refine wq rfl (wA rfl rfl) qd ?_;refine qx (qv (qB rfl ?_));refine qF (qv (qw (qu (qe ?_))));refine qe ?_;refine qb (qt_negN rfl rfl rfl qd hx) ?_;refine qb (qt_andN rfl rfl rfl rfl rfl hx (Nat.sub_lt (by decide) qd)) ?_;refine qb (k6 (j:=285870213051353865) rfl rfl rfl rfl rfl) ?_;refine qb (yD (j:=58) rfl rfl rfl rfl (by decide)) ?_;refine qb (zA rfl rfl rfl hat.1) ?_;refine qb (q8 rfl (by rw [Nat.mul_one];exact at_map 0 hat.1)) ?_;refine qb (wh rfl rfl (wZ (by rw [hat.2];have:=(Lib.lowest_bit 64 x h0 hx).2;omega))) ?_;refine qi ?_;refine qx (qv (qL ?_));refine qM rfl rfl (qD qg) _ ⟨by rw [hat.2],rfl⟩ qm
theorem sp272 (b wb size i:Nat) (ws:List Nat) (H:WS size ws) (hi:i≤size):Spec Tryz.prog 272 #[.pointer (some ⟨b,0,none⟩),.int .i64 i]
    (fun T=>tabA::setA b wb size ws.length::wdsA wb ws::T) (fun r T L=>∃z,r=.int .i64 z∧NextIs ws size i z∧L=tabA::setA b wb size ws.length::wdsA wb ws::T):=by
  refine spec_of (n:=52) (args:=[.pointer (some ⟨b,0,none⟩),.int .i64 i]) Tryz.func272 rfl rfl rfl rfl fun T=>?_;obtain ⟨hs,hl,hn,hw,hz⟩:=id H;refine qw (qu (qo (qx (qv (qw (qu (qe ?_)))))));refine qb (zu (r:=i) rfl rfl qd) ?_;refine qi ?_;refine qx (qv (qw (qw (qu (qe ?_)))));refine qe ?_;refine qC rfl (qH qh (sp205 _ _ _ _) rfl ?_);rintro _ _ ⟨rfl,rfl⟩;refine wG rfl (w9 rfl rfl) (fun h12=>?_) (fun h12=>?_)
  · refine qx (qv (qN rfl ?_));refine qw (qu (qo (qx (qv (qL ?_)))));refine wt ?_;refine qM rfl rfl (qD qg) _ ⟨-1,rfl,.inr ⟨rfl,fun k hk=>hz k qd⟩,rfl⟩ qm
  · refine qx (qv (qB rfl ?_));refine qF (qv (qw (wg [] _ mixed (fun w h=>h) 18 rfl ?_)));refine qk 0 rfl (qK qg) ?_;refine qk 1 rfl (yU (j:=64) rfl rfl rfl (by decide) rfl (wZ qd)) ?_;refine qk 2 rfl (qK qg) ?_;refine qk 3 rfl (qy rfl) ?_;refine qk 4 rfl (qE rfl) ?_;refine qk 5 rfl (qA rfl) ?_;refine qk 6 rfl (qK qg) ?_;refine qk 7 rfl (yU (j:=64) rfl rfl rfl (by decide) rfl (wZ qd)) ?_;refine qk 8 rfl (wz rfl rfl rfl qd) ?_;refine qk 9 rfl (q8 rfl (at_map 0 qd)) ?_;refine qk 10 rfl (qK qg) ?_;refine qk 11 rfl (yT (j:=64) rfl rfl rfl (by decide) rfl) ?_;refine qk 12 rfl (yD rfl rfl rfl rfl (Nat.le_of_lt (Nat.mod_lt _ (by decide:0<64)))) ?_;refine qk 13 rfl (qK qg) ?_;refine qk 14 rfl (yT (j:=64) rfl rfl rfl (by decide) rfl) ?_;refine qk 15 rfl (qt_shlN rfl rfl rfl rfl rfl (Nat.le_of_lt (Nat.mod_lt _ (by decide:0<64)))) ?_;refine qk 16 rfl (xh qg) ?_;refine qk 17 rfl (xh qg) ?_;refine qY qj ?_;refine qv (qJ (q7 (fun m v L=>∃(k w':Nat),ws.length-k=m∧(∃v0,v=ups v0 [(0,.pointer (some ⟨b,0,none⟩)),(5,.int .i64 k),(6,U64 w')])∧(k<ws.length)∧(w'<2^64)∧(∀j,j<64→w'.testBit j=((ws.getD k 0).testBit j&&decide (i≤64*k+j)))∧(∀j,i≤j→j<64*k→hasB ws j=false)∧(i<64*(k+1))∧L=tabA::setA b wb size ws.length::wdsA wb ws::T) _ _ ⟨i/64,_,rfl,⟨_,At.eq (.cons rfl (.cons rfl (.cons rfl .nil)))⟩,by omega,Nat.mod_lt _ (by decide),next_start (hw _),fun j h1 h2=>by omega,by omega,rfl⟩ qh ?_));rintro m _ _ ⟨k,w',rfl,⟨v0,rfl⟩,hk,hw1,hb,hlow,hik,rfl⟩;refine qw (qJ (qw (qw (qu (qe ?_)))));refine wG rfl (wB rfl rfl) (fun h37=>?_) (fun h37=>?_)
    · have hc:=(Lib.lowest_bit 64 w' qd hw1).2;refine qx (qv (qN rfl ?_));refine qw (qu (qe ?_));refine qb (yV rfl rfl qd) ?_;refine qe ?_;refine qC rfl (qH qh (sp324 _ qd hw1) rfl ?_);rintro _ _ ⟨rfl,rfl⟩;refine qb (wa rfl rfl qd) ?_;refine qi ?_;refine qx (qv (qL ?_));refine wt (wQ (wt (wt (wQ ?_))));refine qM rfl rfl (qD qg) _ ⟨(64*k+Lib.ctz 64 w':Nat),by simp,next_found H hk qd hw1 hb hlow,rfl⟩ qm
    · have hlow2:=next_step qd hb hlow;refine qx (qv (qB rfl ?_));refine qF (qv (qw (qu (qe ?_))));refine qb (wa rfl rfl qd) ?_;refine qi ?_;refine qx (qv (qw (qu (qe ?_))));refine qe ?_;refine qb (qy rfl) ?_;refine qb (qE rfl) ?_;refine qb (qA rfl) ?_;refine qb (qI rfl) ?_;refine wG rfl (wA rfl rfl) (fun h51=>?_) (fun h51=>?_)
      · refine qx (qv (qN rfl ?_));refine qw (qu (qo (qx (qv (qL ?_)))));refine wQ (wt (wt (wQ ?_)));refine qM rfl rfl (qD qg) _ ⟨-1,rfl,.inr ⟨rfl,fun q hq=>if e:q<64*(k+1) then hlow2 q hq e else hz q qd⟩,rfl⟩ qm
      · refine qx (qv (qB rfl ?_));refine qF (qX (qv (qu (qe ?_))));refine qb (qy rfl) ?_;refine qb (qE rfl) ?_;refine qb (qA rfl) ?_;refine qe ?_;refine qb (wz (k:=k+1) rfl rfl qd qd) ?_;refine qb (q8 rfl (at_map 0 qd)) ?_;refine qi ?_;refine qx ?_;refine qT _ _ ⟨k+1,_,rfl,⟨_,At.eq (.cons rfl (.cons rfl (.cons rfl .nil)))⟩,by omega,hw _,fun j hj=>by have:i≤64*(k+1)+j:=qd;simp [this],hlow2,by omega,rfl⟩ qd qh
theorem sp191 (b wb size:Nat) (ws:List Nat) (H:WS size ws):Spec Tryz.prog 191 #[.pointer (some ⟨b,0,none⟩)]
    (fun T=>tabA::setA b wb size ws.length::wdsA wb ws::T) (fun r T L=>∃a cap,r=.slice a (elems size ws).length cap∧L=own (.slice a (elems size ws).length cap) 3 1 ((elems size ws).map N64)::tabA::setA b wb size ws.length::wdsA wb ws::T):=by
  refine spec_of (n:=18) (args:=[.pointer (some ⟨b,0,none⟩)]) Tryz.func191 rfl rfl rfl rfl fun T=>?_;obtain ⟨hs,hl,hn,hw,hz⟩:=id H;refine qw (qu (qo (qx (qv (qw (qu (qo ?_)))))));refine qx (qv (qw (qw (qu (qe ?_)))));refine qC rfl (qH qh (sp272 _ _ _ 0 _ H qd) rfl ?_);rintro _ _ ⟨z1,rfl,hz1,rfl⟩;refine qi ?_;refine qx (qv (qJ (w8 (fun w h=>wC (E:=3) (k:=1).sat h) ?_)));refine q7 (fun m v L=>∃(i n:Nat) (z:Int) (xs:List Nat) (a:Option Addr) (cap:Nat),size+1-i=m∧(∃v0,v=ups v0 [(0,.pointer (some ⟨b,0,none⟩)),(3,.slice a n cap),(4,.int .i64 z)])∧(i≤size)∧(NextIs ws size i z)∧(xs=(List.range i).filter (hasB ws))∧(xs.length=n)∧L=own (.slice a n cap) 3 1 (xs.map N64)::tabA::setA b wb size ws.length::wdsA wb ws::T) _ _ ⟨0,0,_,[],none,0,rfl,⟨_,At.eq (.cons rfl (.cons rfl (.cons rfl .nil)))⟩,by omega,hz1,by simp,rfl,rfl⟩ qh ?_;rintro m _ _ ⟨i,n,z,xs,a,cap,rfl,⟨v0,rfl⟩,hi,hz1,hxs,hxn,rfl⟩;refine qw (qw (qu (qe ?_)));refine wG rfl (w9 rfl rfl) (fun h8=>?_) (fun h8=>?_)
  · obtain ⟨j,rfl,hz3,hz4,hz5,hz6⟩ | ⟨rfl,_⟩:=hz1
    rotate_left
    · exact absurd h8 qd
    have hxl:xs.length≤i:=by rw [hxs];simpa using List.length_filter_le (hasB ws) (List.range i)
    refine qx (qv (qN rfl ?_));refine qF (qv (qw (qJ (qu (qe ?_)))));refine qe ?_;refine qC rfl (qS rfl (by decide) (.one qg rfl .nil) fun b15=>?_);refine qC rfl (wl qg qg qr rfl (by rfl) (by decide) xG (ones1 rfl) (fun _ _ _ h h'=>by cases h;simp at h';omega) ?_);rintro _ _ _ a16 c16 ⟨⟩;refine qi ?_;refine qx (qX (qv (qu (qe ?_))));refine qe ?_;refine qb (wa rfl rfl qd) ?_;refine qC rfl (qH qh (sp272 _ _ _ (j+1) _ H qd) rfl ?_);rintro _ _ ⟨z2,rfl,hz2,rfl⟩;refine qi ?_;refine qx ?_;refine qT _ _ ⟨j+1,n+1,_,xs++[j],_,_,rfl,⟨_,At.eq (.cons rfl (.cons rfl (.cons rfl .nil)))⟩,by omega,hz2,by rw [hxs];exact (filter_next hz3 hz5 hz6).symm,by simp [hxn],rfl⟩ qd (by simp only [List.map_append,List.map_cons,List.map_nil];repeat (first | exact .refl | exact .nil | apply Pm.cons | exact .here | apply Sel.there | apply Pm.drop))
  · obtain ⟨j,rfl,hz3,hz4,hz5,hz6⟩ | ⟨rfl,hz3⟩:=hz1
    · exact absurd (Int.natCast_nonneg j) h8
    have hx:xs=elems size ws:=by rw [hxs,elems,filter_end hi hz3]
    subst hxn;subst hx;refine qx (qv (qB rfl ?_));refine wk ?_;refine qQ (qQ (ww ?_));refine qv (qw (qu (qe ?_)));refine qi ?_;refine qx (qv (qL ?_));refine qM rfl rfl (qD qg) _ ⟨_,_,rfl,rfl⟩ qm
theorem sp192 (size:Nat) (hs:size≤1048576):Spec Tryz.prog 192 #[.int .i64 size]
    (fun T=>T) (fun r T L=>∃b wb ws,r=.pointer (some ⟨b,0,none⟩)∧WS size ws∧(∀j,hasB ws j=false)∧L=setA b wb size ws.length::wdsA wb ws::T):=by
  refine spec_of (n:=13) (args:=[.int .i64 size]) Tryz.func192 rfl rfl rfl rfl fun T=>?_;refine qw (qu (qo (qx (qv (qw (qu (qe ?_)))))));refine qb (zu (r:=size) rfl rfl qd) ?_;refine qb (yE (r:=size) rfl rfl qd) ?_;refine qi ?_;refine qx (qv (qw (qu (qe ?_))));refine qe ?_;refine qb (wa rfl rfl qd) ?_;refine qb (yU (m:=size+63) (j:=64) rfl rfl rfl (by decide) qd (wZ qd)) ?_;refine qC rfl (yz (l:=(size+63)/64) (c:=(size+63)/64) rfl rfl rfl rfl qd qd qd fun b10=>?_);refine qb (wy (.one qg rfl (.one qg rfl .nil))) ?_;refine qC rfl (wx rfl fun b12=>?_);refine qi ?_;refine qx (qv (qL ?_));refine qM rfl rfl (qD qg) _ ⟨_,b10,List.replicate ((size+63)/64) 0,rfl,ws_new hs,has_new _,rfl⟩ (fun w h=>by simpa [setA,wdsA,U64] using h)
end
section
open Go
set_option maxRecDepth 4000
inductive Rch (P:Nat→List Nat):Nat→Nat→Prop
  | refl (a:Nat):Rch P a a
  | step {a p b:Nat}:p∈P a→Rch P p b→Rch P a b
theorem Rch.trans {P:Nat→List Nat} {a b c:Nat} (h:Rch P a b) (h':Rch P b c):Rch P a c:=by
  induction h with
  | refl=>exact h'
  | step hp _ ih=>exact .step hp (ih h')
theorem Rch.le {P:Nat→List Nat} (up:∀k,∀x∈P k,x<k) {a b:Nat} (h:Rch P a b):b≤a:=by
  induction h with
  | refl=>exact Nat.le_refl _
  | step hp _ ih=>have:=up _ _ hp;omega
theorem Rch.snoc {P:Nat→List Nat} {a b p:Nat} (h:Rch P a b) (hp:p∈P b):Rch P a p:=h.trans (.step hp (.refl p))
def addW:(Nat→Bool)×List Nat→List Nat→(Nat→Bool)×List Nat
  | st,[]=>st
  | st,p::ps=>addW ((fun j=>st.1 j || decide (j=p)),if st.1 p then st.2 else p::st.2) ps
theorem addW_snoc:∀(ps:List Nat) (st:(Nat→Bool)×List Nat) (p:Nat),addW st (ps++[p])=((fun j=>(addW st ps).1 j || decide (j=p)),if (addW st ps).1 p then (addW st ps).2 else p::(addW st ps).2)
  | [],st,p=>rfl
  | q::ps,st,p=>addW_snoc ps _ p
theorem addW_set:∀(ps:List Nat) (st:(Nat→Bool)×List Nat) (j:Nat),(addW st ps).1 j=true↔st.1 j=true∨j∈ps
  | [],st,j=>by simp [addW]
  | p::ps,st,j=>by
    rw [addW,addW_set ps];simp only [Bool.or_eq_true,decide_eq_true_eq,List.mem_cons];constructor
    · rintro ((h | h) | h)
      · exact .inl h
      · exact .inr (.inl h)
      · exact .inr (.inr h)
    · rintro (h | h | h)
      · exact .inl (.inl h)
      · exact .inl (.inr h)
      · exact .inr h
theorem jq:∀(ps:List Nat) (st:(Nat→Bool)×List Nat),(addW st ps).2.length≤st.2.length+ps.length
  | [],st=>by simp [addW]
  | p::ps,st=>by
    have h1:=jq ps ((fun j=>st.1 j || decide (j=p)),if st.1 p then st.2 else p::st.2);have h2:(if st.1 p then st.2 else p::st.2).length≤st.2.length+1:=by split<;>simp
    rw [addW,List.length_cons];simp only at h1;omega
structure WI (n:Nat) (P:Nat→List Nat) (frm:List Nat) (E:Nat→Prop) (S:Nat→Bool) (xs D:List Nat):Prop where
  nd:(D++xs).Nodup
  mem:∀j,S j=true↔j∈D∨j∈xs
  lt:∀j,S j=true→j<n
  src:∀f∈frm,S f=true
  reach:∀j,S j=true→∃f∈frm,Rch P f j
  closed:∀d∈D,E d→∀p∈P d,S p=true
theorem WI.addOne {n:Nat} {P:Nat→List Nat} {frm:List Nat} {E:Nat→Prop} {S:Nat→Bool} {xs D:List Nat} {p:Nat} (H:WI n P frm E S xs D) (hp:p<n) (hr:∃f∈frm,Rch P f p) :
    WI n P frm E (fun j=>S j || decide (j=p)) (if S p then xs else p::xs) D:=by
  have hm:∀j,(S j || decide (j=p))=true↔S j=true∨j=p:=fun j=>by simp
  refine ⟨?_,fun j=>?_,fun j hj=>?_,fun f hf=>(hm f).2 (.inl (H.src f hf)),fun j hj=>?_,fun d hd he q hq=>(hm q).2 (.inl (H.closed d hd he q hq))⟩
  · split
    · exact H.nd
    · rename_i hS;have h1:p∉D++xs:=fun h=>hS ((H.mem p).2 (by simpa using h));have h2:=List.nodup_append.1 H.nd;rw [List.mem_append,not_or] at h1;refine List.nodup_append.2 ⟨h2.1,List.nodup_cons.2 ⟨h1.2,h2.2.1⟩,fun a ha b hb e=>?_⟩;subst e;rcases List.mem_cons.1 hb with rfl | hb
      · exact h1.1 ha
      · exact h2.2.2 a ha a hb rfl
  · rw [hm,H.mem]
    split
    · rename_i hS;constructor
      · rintro (h | rfl)
        · exact h
        · exact (H.mem _).1 hS
      · exact .inl
    · rw [List.mem_cons];constructor
      · rintro ((h | h) | h)
        · exact .inl h
        · exact .inr (.inr h)
        · exact .inr (.inl h)
      · rintro (h | h | h)
        · exact .inl (.inl h)
        · exact .inr h
        · exact .inl (.inr h)
  · rcases (hm j).1 hj with h | rfl
    · exact H.lt j h
    · exact hp
  · rcases (hm j).1 hj with h | rfl
    · exact H.reach j h
    · exact hr
theorem WI.addAll {n:Nat} {P:Nat→List Nat} {frm:List Nat} {E:Nat→Prop} {D:List Nat}:∀ {ps:List Nat} {S:Nat→Bool} {xs:List Nat},WI n P frm E S xs D→(∀p∈ps,p<n)→(∀p∈ps,∃f∈frm,Rch P f p) →
    WI n P frm E (addW (S,xs) ps).1 (addW (S,xs) ps).2 D
  | [],S,xs,H,_,_=>H
  | p::ps,S,xs,H,h1,h2=>by
    rw [addW];exact WI.addAll (H.addOne (h1 p List.mem_cons_self) (h2 p List.mem_cons_self)) (fun q hq=>h1 q (List.mem_cons_of_mem _ hq)) (fun q hq=>h2 q (List.mem_cons_of_mem _ hq))
theorem WI.start {n:Nat} {P:Nat→List Nat} {E:Nat→Prop} {frm:List Nat} (h:∀f∈frm,f<n):WI n P frm E (addW ((fun _=>false),[]) frm).1 (addW ((fun _=>false),[]) frm).2 []:=by
  have h0:WI n P frm E (fun _=>false) [] []→False∨True:=fun _=>.inr trivial;have key:∀(ps done:List Nat) (S:Nat→Bool) (xs:List Nat),(∀f∈ps,f∈frm)→(xs.Nodup∧(∀j,S j=true↔j∈xs)∧(∀j,S j=true↔j∈done)∧(∀j,S j=true→j∈frm)) →
      (addW (S,xs) ps).2.Nodup∧(∀j,(addW (S,xs) ps).1 j=true↔j∈(addW (S,xs) ps).2)∧(∀j,(addW (S,xs) ps).1 j=true↔j∈done++ps)∧(∀j,(addW (S,xs) ps).1 j=true→j∈frm):=by
    intro ps
    induction ps with
    | nil=>intro done S xs _ h;simpa [addW] using h
    | cons p ps ih =>
      intro done S xs hf ⟨g1,g2,g3,g4⟩;rw [addW];have:=ih (done++[p]) (fun j=>S j || decide (j=p)) (if S p then xs else p::xs) (fun f hf'=>hf f (List.mem_cons_of_mem _ hf')) ⟨?_,?_,?_,?_⟩
      · simpa using this
      · split
        · exact g1
        · rename_i hS;exact List.nodup_cons.2 ⟨fun h=>hS ((g2 p).2 h),g1⟩
      · intro j
        by_cases hS:S p=true
        · simp only [hS,if_true,Bool.or_eq_true,decide_eq_true_eq];rw [←g2 j];constructor
          · rintro (h | rfl)
            · exact h
            · exact hS
          · exact .inl
        · simp only [hS,Bool.or_eq_true,decide_eq_true_eq];rw [if_neg (by simp),List.mem_cons,←g2 j,or_comm]
      · intro j;simp [g3 j]
      · intro j hj;simp only [Bool.or_eq_true,decide_eq_true_eq] at hj;rcases hj with h | rfl
        · exact g4 j h
        · exact hf _ List.mem_cons_self
  obtain ⟨g1,g2,g3,g4⟩:=key frm [] (fun _=>false) [] (fun f hf=>hf) (by simp);exact ⟨by simpa using g1,fun j=>by rw [g2 j];simp,fun j hj=>h j (g4 j hj),fun f hf=>(g3 f).2 (by simpa using hf),fun j hj=>⟨j,g4 j hj,.refl j⟩,fun d hd=>by simp at hd⟩
theorem WI.move {n:Nat} {P:Nat→List Nat} {frm:List Nat} {E:Nat→Prop} {S:Nat→Bool} {xs ys D:List Nat} {m:Nat} (H:WI n P frm E S xs D) (hp:xs.Perm (m::ys)) (hE:E m→∀p∈P m,S p=true):WI n P frm E S ys (m::D):=by
  refine ⟨?_,fun j=>?_,H.lt,H.src,H.reach,fun d hd he=>?_⟩
  · have h1:(D++xs).Perm (m::D++ys):=(hp.append_left D).trans (List.perm_middle);exact h1.nodup_iff.1 H.nd
  · rw [H.mem,hp.mem_iff,List.mem_cons,List.mem_cons];constructor
    · rintro (h | h | h)
      · exact .inl (.inr h)
      · exact .inl (.inl h)
      · exact .inr h
    · rintro ((h | h) | h)
      · exact .inr (.inl h)
      · exact .inl h
      · exact .inr (.inr h)
  · rcases List.mem_cons.1 hd with rfl | hd
    · exact hE he
    · exact H.closed d hd he
theorem WI.skip {n:Nat} {P:Nat→List Nat} {frm:List Nat} {E:Nat→Prop} {S:Nat→Bool} {xs ys D:List Nat} {m:Nat} (H:WI n P frm E S xs D) (hp:xs.Perm (m::ys)) (hE:¬E m):WI n P frm E S ys (m::D):=H.move hp fun h=>absurd h hE
theorem WI.expand {n:Nat} {P:Nat→List Nat} {frm:List Nat} {E:Nat→Prop} {S:Nat→Bool} {xs ys D:List Nat} {m:Nat} (H:WI n P frm E S xs D) (hp:xs.Perm (m::ys)) (hP:∀p∈P m,p<n):WI n P frm E (addW (S,ys) (P m)).1 (addW (S,ys) (P m)).2 (m::D):=by
  have hm:S m=true:=(H.mem m).2 (.inr (hp.mem_iff.2 List.mem_cons_self));obtain ⟨f,hf,hr⟩:=H.reach m hm;have H1:WI n P frm (fun d=>E d∧d≠m) S ys (m::D):=by
    have H0:WI n P frm (fun d=>E d∧d≠m) S xs D:=⟨H.nd,H.mem,H.lt,H.src,H.reach,fun d hd he=>H.closed d hd he.1⟩
    exact H0.skip hp (fun h=>h.2 rfl)
  have H2:=H1.addAll hP fun p hp'=>⟨f,hf,hr.snoc hp'⟩
  refine ⟨H2.nd,H2.mem,H2.lt,H2.src,H2.reach,fun d hd he p hp'=>?_⟩
  by_cases e:d=m
  · subst e;exact (addW_set _ _ p).2 (.inr hp')
  · exact H2.closed d hd ⟨he,e⟩ p hp'
theorem WI.few {n:Nat} {P:Nat→List Nat} {frm:List Nat} {E:Nat→Prop} {S:Nat→Bool} {xs D:List Nat} (H:WI n P frm E S xs D):D.length+xs.length≤n:=by
  have:=vc (m:=List.range n) H.nd fun x hx=>List.mem_range.2 (H.lt x ((H.mem x).2 (by simpa using hx)));simpa using this
theorem WI.all {n:Nat} {P:Nat→List Nat} {frm:List Nat} {S:Nat→Bool} {D:List Nat} (H:WI n P frm (fun _=>True) S [] D) (j:Nat):S j=true↔∃f∈frm,Rch P f j:=by
  refine ⟨H.reach j,?_⟩;rintro ⟨f,hf,hr⟩;have h0:=H.src f hf;clear hf
  induction hr with
  | refl=>exact h0
  | step hp _ ih =>
    have hD:=((H.mem _).1 h0).resolve_right (by simp);exact ih (H.closed _ hD trivial _ hp)
theorem WI.none {n:Nat} {P:Nat→List Nat} {frm:List Nat} {E:Nat→Prop} {S:Nat→Bool} {D:List Nat} {b:Nat} (H:WI n P frm E S [] D) (hb:b∉D) (hE:∀c,c<n→c≠b→Rch P c b→E c):∀f∈frm,¬Rch P f b:=fun f hf hr=>by
  have h0:=H.src f hf;clear hf
  induction hr with
  | refl=>exact hb (((H.mem _).1 h0).resolve_right (by simp))
  | @step a p b hp hr ih =>
    have hD:=((H.mem _).1 h0).resolve_right (by simp);have hne:a≠b:=fun e=>hb (by rw [←e];exact hD);exact ih hb hE (H.closed _ hD (hE a (H.lt a h0) hne (.step hp hr)) _ hp)
def setx (b size:Nat) (S:Nat→Bool):HProp:=ex fun y:Nat×List Nat=>box [lift (WS size y.2∧∀j,hasB y.2 j=S j),setA b y.1 size y.2.length,wdsA y.1 y.2]
theorem z8 {b size:Nat} {S:Nat→Bool} {L:List HProp} {w:World} (h:Sat (setx b size S::L) w):∃wb ws,WS size ws∧(∀j,hasB ws j=S j)∧Sat (setA b wb size ws.length::wdsA wb ws::L) w:=by
  obtain ⟨y,h⟩:=yb h;obtain ⟨⟨h1,h2⟩,h⟩:=yn (wF.sat h);exact ⟨_,_,h1,h2,h⟩
theorem kJ {b wb size:Nat} {ws:List Nat} {S:Nat→Bool} {L:List HProp} {w:World} (h1:WS size ws) (h2:∀j,hasB ws j=S j) (h:Sat (setA b wb size ws.length::wdsA wb ws::L) w):Sat (setx b size S::L) w :=
  (ye (f:=fun y:Nat×List Nat=>box [lift (WS size y.2∧∀j,hasB y.2 j=S j),setA b y.1 size y.2.length,wdsA y.1 y.2]) (wb,ws)).sat (wi (L:=[_,_,_]).sat ((yZ ⟨h1,h2⟩).sat h))
theorem mnew (size:Nat) (hs:size≤1048576):Spec Tryz.prog 192 #[.int .i64 size] (fun T=>T) (fun r T L=>∃b,r=ptr b∧L=setx b size (fun _=>false)::T) :=
  (sp192 size hs).mono (fun _ _ h=>h) fun r T L ⟨b,wb,ws,h1,h2,h3,h4⟩=>⟨_,⟨b,h1,rfl⟩,fun w hw=>by subst h4;exact kJ h2 h3 hw⟩
theorem mput (b size i:Nat) (S:Nat→Bool) (hi:i<size):Spec Tryz.prog 194 #[ptr b,.int .i64 i] (fun T=>setx b size S::T) (fun r T L=>r=.bool (!S i)∧L=setx b size (fun j=>S j || decide (j=i))::T):=by
  refine ⟨⟨_,Tryz.func194,rfl,rfl⟩,fun T w hw=>?_⟩;obtain ⟨wb,ws,h1,h2,h3⟩:=z8 hw;refine ((sp194 b wb size i ws h1 hi).2 T w h3).mono fun e w' ⟨r,L,he,⟨hr,ws',g1,g2,g3⟩,hs⟩=>⟨r,_,he,⟨by rw [hr,h2],rfl⟩,?_⟩
  subst g3;exact kJ g1 (fun j=>by rw [g2,h2]) hs
theorem mhas (b size i:Nat) (S:Nat→Bool) (hi:i<size):Spec Tryz.prog 195 #[ptr b,.int .i64 i] (fun T=>setx b size S::T) (fun r T L=>r=.bool (S i)∧L=setx b size S::T):=by
  refine ⟨⟨_,Tryz.func195,rfl,rfl⟩,fun T w hw=>?_⟩;obtain ⟨wb,ws,h1,h2,h3⟩:=z8 hw;refine ((sp195 b wb size i ws h1 hi).2 T w h3).mono fun e w' ⟨r,L,he,⟨hr,g3⟩,hs⟩=>⟨r,_,he,⟨by rw [hr,h2],rfl⟩,?_⟩
  subst g3;exact kJ h1 h2 hs
def listS (size:Nat) (S:Nat→Bool):List Nat:=(List.range size).filter S
theorem mlist (b size:Nat) (S:Nat→Bool):Spec Tryz.prog 191 #[ptr b] (fun T=>tabA::setx b size S::T) (fun r T L=>∃a cap,r=.slice a (listS size S).length cap∧L=rdi a (listS size S).length cap (listS size S)::tabA::setx b size S::T):=by
  refine ⟨⟨_,Tryz.func191,rfl,rfl⟩,fun T w hw=>?_⟩;obtain ⟨wb,ws,h1,h2,h3⟩:=z8 ((Sel.there Sel.here).ent.sat hw);have h4:Sat (tabA::setA b wb size ws.length::wdsA wb ws::T) w:=(Pm.cons (.there (.there .here)) .refl).sat w h3;have e:elems size ws=listS size S:=List.filter_congr fun j _=>h2 j;refine ((sp191 b wb size ws h1).2 T w h4).mono fun e' w' ⟨r,L,he,⟨a,cap,hr,g3⟩,hs⟩=>⟨r,_,he,⟨a,cap,by rw [hr,e],rfl⟩,?_⟩
  subst g3;have h5:=wX hs;rw [e] at h5;have h6:Sat (setA b wb size ws.length::wdsA wb ws::rds (.slice a (listS size S).length cap) 1 ((listS size S).map N64)::tabA::T) w':=(Pm.cons (.there (.there .here)) (Pm.cons (.there (.there .here)) .refl)).sat w' h5;have h7:=kJ h1 h2 h6;exact (Pm.cons (.there .here) (Pm.cons (.there .here) .refl)).sat w' h7
theorem qpop187 (b:Nat) (xs:List Nat) (hl:xs.length≤100000):Spec Tryz.prog 187 #[ptr b] (fun T=>quex 375 377 b xs::T) (fun r T L=>∃(m:Nat) (ok:Bool) (ys:List Nat),r=.tuple #[.int .i64 m,.bool (decide (ok=true))]∧(ok=true→xs.Perm (m::ys))∧(ok=false→xs=[]∧ys=[])∧L=quex 375 377 b ys::T):=by
  by_cases h:xs=[]
  · subst h;exact (qpop187n b).mono (fun _ _ h=>h) fun r T L ⟨h1,h2⟩=>⟨L,⟨0,false,[],h1,fun h=>(by cases h),fun _=>⟨rfl,rfl⟩,h2⟩,fun _ h=>h⟩
  · exact (qpop187y b xs hl h).mono (fun _ _ h=>h) fun r T L ⟨m,ys,h1,h2,_,h3⟩=>⟨L,⟨m,true,ys,h1,fun _=>h2,fun h=>(by cases h),h3⟩,fun _ h=>h⟩
end
section
open Go
set_option maxRecDepth 4000
structure SrcOk (v n:Nat) (P:Nat→List Nat) (gn:Nat→Nat) (A:HProp):Prop where
  commits:Spec Tryz.prog 120 #[ptr v] (fun T=>A::T) (fun r T L=>r=.int .i64 n∧L=A::T)
  parents:∀c,c<n→Spec Tryz.prog 122 #[ptr v,.int .i64 c] (fun T=>A::T) (fun r T L=>∃a cap,r=.slice a (P c).length cap∧L=rdi a (P c).length cap (P c)::A::T)
  gen:∀c,c<n→Spec Tryz.prog 391 #[ptr v,.int .i64 c] (fun T=>A::T) (fun r T L=>r=.int .i64 (gn c)∧L=A::T)
  up:∀k,∀x∈P k,x<k
  len:∀k,(P k).length≤16
  few:n≤1000
  gens:∀c,1≤gn c∧gn c≤1024
  may:∀c b,c<n→c≠b→Rch P c b→gn c=1024∨(gn b≠1024∧(gn c=1023∨gn b<gn c))
def vws (v q x p:Nat) (ts:List Tr) (cs:List Cm) (ls:List Lk) (gs:List Ly):HProp:=box [viw v q x,sto q p ts cs,idx x p ls gs]
theorem psAt_up {ts:List Tr} {cs:List Cm} (S:StoOk ts cs) (k:Nat):∀x∈(cs.getD k dCm).ps,x<k:=by
  by_cases h:k<cs.length
  · exact S.up k h
  · intro x hx;rw [List.getD_eq_getElem?_getD,List.getElem?_eq_none qd] at hx;simp at hx
theorem view_may {ts:List Tr} {cs:List Cm} {ls:List Lk} {gs:List Ly} (V:VwOk ts cs ls gs):∀c b,c<cs.length→c≠b→Rch (fun k=>(cs.getD k dCm).ps) c b→genV gs c=1024∨(genV gs b≠1024∧(genV gs c=1023∨genV gs b<genV gs c)):=by
  intro c b hc hne hr
  by_cases hi:c<(rowsOf gs).length
  · right;have hlt:∀ {c b:Nat},Rch (fun k=>(cs.getD k dCm).ps) c b→c<(rowsOf gs).length→c=b∨(b<(rowsOf gs).length∧genV gs b<genV gs c):=by
      intro c b hr
      induction hr with
      | refl=>intro _;exact .inl rfl
      | @step a p b hp hr ih =>
        intro ha;have hpa:=psAt_up V.s a p hp;have h1:genV gs p<genV gs a:=by
          have h2:=V.fit.lt a ha p (by rw [row_ps V ha];exact hp);rw [List.nil_append] at h2;have h3:((rowsOf gs).map Rw.gen).getD p 0=((rowsOf gs).getD p dR).gen:=by
            have:p<(rowsOf gs).length:=by omega
            simp [this]
          rw [h3] at h2;unfold genV;rw [if_pos qd,if_pos ha];exact h2
        right;rcases ih qd with rfl | ⟨h2,h3⟩
        · exact ⟨by omega,h1⟩
        · exact ⟨h2,by omega⟩
    rcases hlt hr hi with h | ⟨h1,h2⟩
    · exact absurd h hne
    · have h3:=V.fit.gen c hi;have h4:=V.lays.all;have h5:genV gs c=((rowsOf gs).getD c dR).gen:=by unfold genV;rw [if_pos hi]
      simp only [List.length_nil] at h3;exact ⟨by omega,.inr h2⟩
  · left;unfold genV;rw [if_neg hi]
theorem spec_vws {f:FuncId} {args:Array Value} {v q x p:Nat} {ts:List Tr} {cs:List Cm} {ls:List Lk} {gs:List Ly} {R:Value→List HProp→Prop}
    (h:Spec Tryz.prog f args (fun T=>viw v q x::sto q p ts cs::idx x p ls gs::T) (fun r T L=>∃M,R r M∧L=M++(viw v q x::sto q p ts cs::idx x p ls gs::T))):Spec Tryz.prog f args (fun T=>vws v q x p ts cs ls gs::T) (fun r T L=>∃M,R r M∧L=M++(vws v q x p ts cs ls gs::T)) :=
  h.mono (fun _ _ hw=>wF.sat hw) fun r T L ⟨M,h1,h2⟩=>⟨_,⟨M,h1,rfl⟩,fun w hw=>by
    subst h2;have key:∀M:List HProp,Ent (M++(viw v q x::sto q p ts cs::idx x p ls gs::T)) (M++(vws v q x p ts cs ls gs::T)):=fun M=>by
      induction M with
      | nil=>exact wi (L:=[viw v q x,sto q p ts cs,idx x p ls gs])
      | cons A M ih=>exact ih.cons
    exact (key M).sat hw⟩
theorem src_view {v q x p:Nat} {ts:List Tr} {cs:List Cm} {ls:List Lk} {gs:List Ly} (V:VwOk ts cs ls gs):SrcOk v cs.length (fun k=>(cs.getD k dCm).ps) (genV gs) (vws v q x p ts cs ls gs) where
  commits:=(spec_vws (R:=fun r M=>r=.int .i64 cs.length∧M=[]) ((sp120 v q p x ts cs ls gs V).mono (fun _ _ h=>h) fun r T L ⟨h1,h2⟩=>⟨_,⟨[],⟨h1,rfl⟩,h2⟩,fun _ h=>h⟩)).mono (fun _ _ h=>h) fun r T L ⟨M,⟨h1,h2⟩,h3⟩=>⟨L,⟨h1,by rw [h3,h2];rfl⟩,fun _ h=>h⟩
  parents c hc:=(spec_vws (R:=fun r M=>∃a cap,r=.slice a (cs.getD c dCm).ps.length cap∧M=[rdi a (cs.getD c dCm).ps.length cap (cs.getD c dCm).ps]) ((sp122 v q p x ts cs ls gs V c hc).mono (fun _ _ h=>h) fun r T L ⟨a,cap,h1,h2⟩=>⟨_,⟨_,⟨a,cap,h1,rfl⟩,h2⟩,fun _ h=>h⟩)).mono (fun _ _ h=>h)
    fun r T L ⟨M,⟨a,cap,h1,h2⟩,h3⟩=>⟨L,⟨a,cap,h1,by rw [h3,h2];rfl⟩,fun _ h=>h⟩
  gen c hc:=(spec_vws (R:=fun r M=>r=.int .i64 (genV gs c)∧M=[]) ((sp391 v q p x ts cs ls gs V c hc).mono (fun _ _ h=>h) fun r T L ⟨h1,h2⟩=>⟨_,⟨[],⟨h1,rfl⟩,h2⟩,fun _ h=>h⟩)).mono (fun _ _ h=>h) fun r T L ⟨M,⟨h1,h2⟩,h3⟩=>⟨L,⟨h1,by rw [h3,h2];rfl⟩,fun _ h=>h⟩
  up:=psAt_up V.s
  len k:=by
    by_cases h:k<cs.length
    · exact V.s.len k h
    · rw [List.getD_eq_getElem?_getD,List.getElem?_eq_none qd];simp
  few:=V.s.lc
  gens:=V.gen_le
  may:=view_may V
abbrev wlk (w v bs bq:Nat):HProp:=pt w (cl [.iface 64 (ptr v),ptr bs,ptr bq] 299)
theorem sp193 (vv n:Nat) (P:Nat→List Nat) (gn:Nat→Nat) (A:HProp) (K:SrcOk vv n P gn A):Spec Tryz.prog 193 #[.iface 64 (ptr vv)]
    (fun T=>A::T) (fun r T L=>r=.int .i64 n∧L=A::T):=by
  refine spec_of (n:=7) (args:=[.iface 64 (ptr vv)]) Tryz.func193 rfl rfl rfl rfl fun T=>?_;have hfew:=K.few;refine qw (qu (qo (qx (qv (qw (qu (qe ?_)))))));refine qC rfl (xA qh (K.commits) rfl rfl ?_);rintro _ _ ⟨rfl,rfl⟩;refine qb (zu (r:=(n:Int)) rfl rfl (by split<;>omega)) ?_;refine qb (yE (r:=(n:Int)) rfl rfl (by split<;>omega)) ?_;refine qi ?_;refine qx (qv (qL ?_));refine qM rfl rfl (qD qg) _ ⟨rfl,rfl⟩ qm
theorem sp185 (vv n:Nat) (P:Nat→List Nat) (gn:Nat→Nat) (A:HProp) (K:SrcOk vv n P gn A) (m0 cap c1:Nat) (a a1:Option Addr) (ps:List Nat) (hm:ps.length=m0) (hps:∀x∈ps,x<n) (hmm:m0≤100000):Spec Tryz.prog 185 #[.iface 64 (ptr vv),.slice a1 1 c1]
    (fun T=>rds (.slice a1 1 c1) 1 [.slice a m0 cap]::rdi a m0 cap ps::A::T) (fun r T L=>r=.int .i64 0∧L=rds (.slice a1 1 c1) 1 [.slice a m0 cap]::rdi a m0 cap ps::A::T):=by
  refine spec_of (n:=35) (args:=[.iface 64 (ptr vv),.slice a1 1 c1]) Tryz.func185 rfl rfl rfl rfl fun T=>?_;refine qw (qu (qo (qx (qv (qw (qw (qu ?_)))))));refine qe ?_;refine qb (yj rfl rfl rfl) ?_;refine qx (qv (qB rfl ?_));refine qF (qv (qw (qu (qe ?_))));refine qC rfl (qH qh (sp193 vv n P gn A K) rfl ?_);rintro _ _ ⟨rfl,rfl⟩;refine qi ?_;refine qx (qv (qw (qw (qu (qe ?_)))));refine qb (qI rfl) ?_;refine qb wH ?_;refine qx (qv (qJ (q7 (fun m v L=>∃(i:Nat),1-i=m∧(∃v0,v=ups v0 [(5,.int .i64 n),(14,.slice a1 1 c1),(15,.int .i64 1),(16,.int .i64 i)])∧(i≤1)∧L=rds (.slice a1 1 c1) 1 [.slice a m0 cap]::rdi a m0 cap ps::A::T) _ _ ⟨0,rfl,⟨_,At.eq (.cons rfl (.cons rfl (.cons rfl (.cons rfl .nil))))⟩,by omega,rfl⟩ qh ?_)));rintro m _ _ ⟨i,rfl,⟨v0,rfl⟩,hi,rfl⟩;refine qw (qu ?_);refine wG rfl (wj rfl rfl) (fun h17=>?_) (fun h17=>?_)
  · refine wK (a:=a1) (xs:=[.slice a m0 cap]) qr (by simp) fun b off l E fz ha hl0=>?_;subst ha;refine qx (qv (qw (qN rfl ?_)));refine qF (qv (qw (qJ (qw (qu (qb (wz rfl rfl rfl qd) ?_))))));refine qb (q8 rfl ((hl0 i (by show i<1;omega)).trans (by rw [show i=0 by omega];rfl))) ?_;refine qi ?_;refine qx (qv (qw (qu (qe ?_))));refine qb (qI rfl) ?_;refine qb wH ?_;refine qx (qv (qJ (q7 (fun m v L=>∃(k:Nat),m0-k=m∧(∃v0,v=ups v0 [(5,.int .i64 n),(14,.slice (some ⟨b,off,none⟩) 1 c1),(15,.int .i64 1),(16,.int .i64 i),(20,.slice a m0 cap),(21,.int .i64 m0),(22,.int .i64 k)])∧(k≤m0)∧L=rds (.slice (some ⟨b,off,none⟩) 1 c1) 1 [.slice a m0 cap]::rdi a m0 cap ps::A::T) _ _ ⟨0,rfl,⟨_,At.eq (.cons rfl (.cons rfl (.cons rfl (.cons rfl (.cons rfl (.cons rfl (.cons rfl .nil)))))))⟩,by omega,rfl⟩ qh ?_)));rintro m _ _ ⟨k,rfl,⟨v0,rfl⟩,hk,rfl⟩;refine qw (qu ?_);refine wG rfl (wj rfl rfl) (fun h23=>?_) (fun h23=>?_)
    · have hpk:=hps _ (w6 (d:=0) (k:=k) qd);refine wK (a:=a) (xs:=ints ps) qr (by rw [List.length_map];omega) fun b2 off2 l2 E2 fz2 ha2 hl=>?_;subst ha2;refine qx (qv (qw (qN rfl ?_)));refine qF (qv (qw (qJ (qw (qu (qb (wz rfl rfl rfl qd) ?_))))));refine qb (q8 rfl ((hl _ (by rw [List.length_map];omega)).trans (w5 0 qd))) ?_;refine qi ?_;refine qx (qv (qw (qu (qe ?_))));refine wq rfl (wj rfl rfl) qd ?_;refine qe ?_;refine qq (qK qg) ?_;refine qq (qK qg) ?_;refine wR (qG rfl rfl rfl rfl) rfl (w9 rfl rfl) qd ?_;refine qb (qW rfl qg) ?_;refine qx (qv (qB rfl ?_));refine qF (qX (qv (qu (qb (wa rfl rfl qd) ?_))));refine qe ?_;refine qx ?_;refine qT _ _ ⟨k+1,rfl,⟨_,At.eq (.cons rfl (.cons rfl (.cons rfl (.cons rfl (.cons rfl (.cons rfl (.cons rfl .nil)))))))⟩,by omega,rfl⟩ qd qh
    · refine qx (qv (qw (qB rfl ?_)));refine wk ?_;refine qQ (qQ (ww ?_));refine qX (qv (qu (qb (wa rfl rfl qd) ?_)));refine qe ?_;refine qx ?_;refine qT _ _ ⟨i+1,rfl,⟨_,At.eq (.cons rfl (.cons rfl (.cons rfl (.cons rfl .nil))))⟩,by omega,rfl⟩ qd qh
  · refine qx (qv (qw (qB rfl ?_)));refine wk ?_;refine qQ (qQ (ww ?_));refine qv (qw (qu (qo (qx (qv (qL ?_))))));refine qM rfl rfl (qD qg) _ ⟨rfl,rfl⟩ qm
theorem sp189 (w vv bs bq n m0 cap:Nat) (a:Option Addr) (ps:List Nat) (S:Nat→Bool) (xs:List Nat) (hm:ps.length=m0) (hps:∀x∈ps,x<n) (hxl:xs.length+m0≤100000):Spec Tryz.prog 189 #[ptr w,.slice a m0 cap]
    (fun T=>wlk w vv bs bq::setx bs n S::quex 375 377 bq xs::rdi a m0 cap ps::T) (fun r T L=>r=.tuple #[]∧L=wlk w vv bs bq::setx bs n (addW (S,xs) ps).1::quex 375 377 bq (addW (S,xs) ps).2::rdi a m0 cap ps::T):=by
  refine spec_of (n:=25) (args:=[ptr w,.slice a m0 cap]) Tryz.func189 rfl rfl rfl rfl fun T=>?_;refine qw (qu (qe ?_));refine qb (qI rfl) ?_;refine qb wH ?_;refine qx (qv (qJ ?_));rw [show setx bs n S=setx bs n (addW (S,xs) (ps.take 0)).1 from rfl,show quex 375 377 bq xs=quex 375 377 bq (addW (S,xs) (ps.take 0)).2 from rfl];refine q7 (fun m v L=>∃(k:Nat),m0-k=m∧(∃v0,v=ups v0 [(0,ptr w),(6,.slice a m0 cap),(7,.int .i64 m0),(8,.int .i64 k)])∧(k≤m0)∧L=wlk w vv bs bq::setx bs n (addW (S,xs) (ps.take k)).1::quex 375 377 bq (addW (S,xs) (ps.take k)).2::rdi a m0 cap ps::T) _ _ ⟨0,rfl,⟨_,At.eq (.cons rfl (.cons rfl (.cons rfl (.cons rfl .nil))))⟩,by omega,rfl⟩ qh ?_;rintro m _ _ ⟨k,rfl,⟨v0,rfl⟩,hk,rfl⟩;refine qw (qu ?_);refine wG rfl (wj rfl rfl) (fun h9=>?_) (fun h9=>?_)
  · have hpk:=hps _ (w6 (d:=0) (k:=k) qd);have hal:=jq (ps.take k) (S,xs);simp only [List.length_take] at hal;refine wK (a:=a) (xs:=ints ps) qr (by rw [List.length_map];omega) fun b off l E fz ha hl=>?_;subst ha;refine qx (qv (qw (qN rfl ?_)));refine qF (qv (qw (qJ (qw (qu (qb (wz rfl rfl rfl qd) ?_))))));refine qb (q8 rfl ((hl _ (by rw [List.length_map];omega)).trans (w5 0 qd))) ?_;refine qi ?_;refine qx (qv (qw (qu (qe ?_))));refine qb (qy rfl) ?_;refine qb (qE rfl) ?_;refine qb (qA rfl) ?_;refine qe ?_;refine qC rfl (qH qh (mput bs n (ps.getD k 0) (addW (S,xs) (ps.take k)).1 qd) rfl ?_);rintro _ _ ⟨rfl,rfl⟩;refine qx (qv ?_);refine yM rfl (fun h17=>?_) (fun h17=>?_)
    · refine qu (qe ?_);refine qb (qy rfl) ?_;refine qb (qE rfl) ?_;refine qb (qA rfl) ?_;refine qe ?_;refine qC rfl (qH qh (qpush270 bq (ps.getD k 0) (addW (S,xs) (ps.take k)).2 qd) rfl ?_);rintro _ _ ⟨rfl,rfl⟩;refine qx (qX (qv (qu (qb (wa rfl rfl qd) ?_))));refine qe ?_;refine qx ?_;refine qT _ _ ⟨k+1,rfl,⟨_,At.eq (.cons rfl (.cons rfl (.cons rfl (.cons rfl .nil))))⟩,by omega,rfl⟩ qd (by rw [wU (d:=0) (show k<ps.length by omega),addW_snoc];rw [if_neg (by simpa using h17)];repeat (first | exact .refl | exact .nil | apply Pm.cons | exact .here | apply Sel.there | apply Pm.drop))
    · refine qF (qX (qv (qu (qb (wa rfl rfl qd) ?_))));refine qe ?_;refine qx ?_;refine qT _ _ ⟨k+1,rfl,⟨_,At.eq (.cons rfl (.cons rfl (.cons rfl (.cons rfl .nil))))⟩,by omega,rfl⟩ qd (by rw [wU (d:=0) (show k<ps.length by omega),addW_snoc];rw [if_pos (by simpa using h17)];repeat (first | exact .refl | exact .nil | apply Pm.cons | exact .here | apply Sel.there | apply Pm.drop))
  · obtain rfl:k=m0:=by omega
    rw [show ps.take k=ps by rw [←hm];simp];refine qx (qv (qw (qB rfl ?_)));refine wk ?_;refine qQ (qQ (ww ?_));refine wM rfl rfl _ ⟨rfl,rfl⟩ qm
theorem sp186 (vv n:Nat) (P:Nat→List Nat) (gn:Nat→Nat) (A:HProp) (K:SrcOk vv n P gn A) (m0 cap:Nat) (a:Option Addr) (ps:List Nat) (hm:ps.length=m0) (hps:∀x∈ps,x<n) (hmm:m0≤1000):Spec Tryz.prog 186 #[.iface 64 (ptr vv),.slice a m0 cap]
    (fun T=>A::rdi a m0 cap ps::T) (fun r T L=>∃w bs bq,r=ptr w∧L=wlk w vv bs bq::setx bs n (addW ((fun _=>false),[]) ps).1::quex 375 377 bq (addW ((fun _=>false),[]) ps).2::A::rdi a m0 cap ps::T):=by
  refine spec_of (n:=17) (args:=[.iface 64 (ptr vv),.slice a m0 cap]) Tryz.func186 rfl rfl rfl rfl fun T=>?_;have hfew:=K.few;refine qw (qu (qo (qx (qv (qw (qu (qe ?_)))))));refine qe ?_;refine qC rfl (qH qh (sp193 vv n P gn A K) rfl ?_);rintro _ _ ⟨rfl,rfl⟩;refine qC rfl (qH qh (mnew n qd) rfl ?_);rintro _ _ ⟨bs,rfl,rfl⟩;refine qC rfl (qH qh (sp267) rfl ?_);rintro _ _ ⟨bq,rfl,rfl⟩;refine qb (wy (.one qg rfl (.one qg rfl (.one qg rfl .nil)))) ?_;refine qC rfl (wx rfl fun b12=>?_);refine qi ?_;refine qx (qv (qw (qu (qe ?_))));refine qe ?_;refine qC rfl (qH qh (sp189 b12 vv bs bq n m0 cap a ps (fun _=>false) [] hm hps (by simp;omega)) rfl ?_);rintro _ _ ⟨rfl,rfl⟩;refine qx (qv (qw (qu (qe ?_))));refine qi ?_;refine qx (qv (qL ?_));refine qM rfl rfl (qD qg) _ ⟨b12,bs,bq,rfl,rfl⟩ qm
theorem sp110 (vv n:Nat) (P:Nat→List Nat) (gn:Nat→Nat) (A:HProp) (K:SrcOk vv n P gn A) (a b:Nat) (ha:a<n) (hb:b<n):Spec Tryz.prog 110 #[.iface 64 (ptr vv),.int .i64 a,.int .i64 b]
    (fun T=>A::T) (fun r T L=>∃z:Bool,r=.tuple #[.bool z,.int .i64 0]∧(z=true↔Rch P b a)∧L=A::T):=by
  refine spec_of (n:=64) (args:=[.iface 64 (ptr vv),.int .i64 a,.int .i64 b]) Tryz.func110 rfl rfl rfl rfl fun T=>?_;have hfew:=K.few;have hga:=K.gens a;refine qw (qu (qo (qo (qx (qv (qw (qw ?_)))))));refine qu (qe ?_);refine qe ?_;refine qe ?_;refine qC rfl (qS rfl (by first | decide | simp) (.one qg rfl (.one qg rfl .nil)) fun b16=>?_);refine qC rfl (qS rfl (by first | decide | simp) (.one qg rfl .nil) fun b17=>?_);refine wE (fun w h=>xa (m:=1) (cap:=1) (k:=1) (xs:=[.slice (some ⟨b16,0,none⟩) 2 2]) (rest:=[]) h rfl (by decide)) ?_;refine wE (fun w h=>xa (m:=2) (cap:=2) (k:=1) (xs:=ints [a,b]) (rest:=[]) ((Sel.there Sel.here).ent.sat h) rfl (by decide)) ?_;refine qC rfl (qH qh (sp185 vv n P gn A K 2 2 1 (some ⟨b16,0,none⟩) (some ⟨b17,0,none⟩) [a,b] rfl (by simp;omega) qd) rfl ?_);rintro _ _ ⟨rfl,rfl⟩;refine qi ?_;refine qx (qv (qw (qu (qe ?_))));refine wq rfl (wB rfl rfl) (by simp) ?_;refine qx (qv (qB rfl ?_));refine qF (qv (qw (qu (qe ?_))));refine qe ?_;refine qC rfl (xA qh (K.gen a ha) rfl rfl ?_);rintro _ _ ⟨rfl,rfl⟩;refine qi ?_;refine qx (qv (qw (qu (qe ?_))));refine qe ?_;refine qC rfl (qS rfl (by first | decide | simp) (.one qg rfl .nil) fun b27=>?_);refine wE (fun w h=>xa (m:=1) (cap:=1) (k:=1) (xs:=ints [b]) (rest:=[]) h rfl (by decide)) ?_;refine qC rfl (qH qh (sp186 vv n P gn A K 1 1 (some ⟨b27,0,none⟩) [b] rfl (by simpa using hb) qd) rfl ?_);rintro _ _ ⟨w,bs,bq,rfl,rfl⟩;have hW:=WI.start (n:=n) (P:=P) (E:=fun d=>a<d∧(gn d=1024∨(gn a≠1024∧(gn d=1023∨gn a<gn d)))) (frm:=[b]) (by simpa using hb);refine qi ?_;refine qx (qv (qw (qw (qu (qe ?_)))));refine qb (qy rfl) ?_;refine qb (qE rfl) ?_;refine qb (qA rfl) ?_;refine qC rfl (qH qh (qpop187 bq (addW ((fun _=>false),[]) [b]).2 (by have:=jq [b] ((fun _=>false),[]);simp only [List.length_cons,List.length_nil] at this;omega)) rfl ?_);rintro _ _ ⟨m1,ok1,ys1,rfl,hp1,he1,rfl⟩;refine qe ?_;refine qb (qP rfl) ?_;refine qb (qP rfl) ?_;refine qi ?_;refine qi ?_;refine qx (qv (qJ (q7 (fun m v L=>∃(m2:Nat) (ok:Bool) (S:Nat→Bool) (ys D:List Nat),(if ok=true then n+1-D.length else 0)=m∧(∃v0,v=ups v0 [(0,.iface 64 (ptr vv)),(1,.int .i64 a),(9,.int .i64 (gn a)),(10,ptr w),(11,.int .i64 m2),(12,.bool (decide (ok=true)))])∧(ok=false→ys=[])∧(∃xs,WI n P [b] (fun d=>a<d∧(gn d=1024∨(gn a≠1024∧(gn d=1023∨gn a<gn d)))) S xs D∧(ok=true→xs.Perm (m2::ys))∧(ok=false→xs=[]))∧(a∉D)∧L=wlk w vv bs bq::setx bs n S::quex 375 377 bq ys::A::T) _ _ ⟨m1,ok1,_,ys1,[],rfl,⟨_,At.eq (.cons rfl (.cons rfl (.cons rfl (.cons rfl (.cons rfl (.cons rfl .nil))))))⟩,fun h=>(he1 h).2,⟨_,hW,hp1,fun h=>(he1 h).1⟩,by simp,rfl⟩ qh ?_)));rintro m _ _ ⟨m2,ok,S,ys,D,rfl,⟨v0,rfl⟩,hys,⟨xs,hW2,hxp,hxe⟩,haD,rfl⟩;refine qw (qw (qu (qe ?_)));refine qx (qv ?_);refine wx_if rfl (fun h37=>?_) (fun h37=>?_)
  · have hm2s:S m2=true:=(hW2.mem m2).2 (.inr ((hxp h37).mem_iff.2 List.mem_cons_self));have hm2:=hW2.lt m2 hm2s;have hPm:∀y∈P m2,y<n:=fun y hy=>by have:=K.up m2 y hy;omega
    have hyl:ys.length≤1000:=by have:=hW2.few;have hl:=(hxp h37).length_eq;simp only [List.length_cons] at hl;omega
    refine qF (qv (qw (qJ (qw (qw (qu (qe ?_)))))));refine qe ?_;refine wG rfl (wA rfl rfl) (fun h48=>?_) (fun h48=>?_)
    · obtain rfl:m2=a:=by omega
      have hz:Rch P b m2:=by obtain ⟨f,hf,hr⟩:=hW2.reach m2 hm2s;rw [List.mem_singleton.1 hf] at hr;exact hr
      refine qx (qv (qN rfl ?_));refine qw (qu (qo (qo (qx (qv (qL ?_))))));refine wt (wQ (wt (wt (wQ (wt ?_)))));refine wu rfl rfl (qD qg) (qD qg) _ ⟨true,rfl,⟨fun _=>hz,fun _=>rfl⟩,rfl⟩ qm
    · refine qx (qv (qB rfl ?_));refine qF (qv (qw (qu (qe ?_))));refine qe ?_;refine wG rfl (wS rfl rfl) (fun h51=>?_) (fun h51=>?_)
      · refine qe ?_;refine qq (qK qg) ?_;refine qq (qK qg) ?_;refine xr (qG rfl rfl rfl rfl) rfl (xA qh (K.gen m2 hm2) rfl rfl ?_);rintro _ _ ⟨rfl,rfl⟩;refine qq (qK qg) ?_;refine xr (qG rfl rfl rfl rfl) rfl (qH qh (sp188 (gn m2) (gn a) (by have:=K.gens m2;omega) (by have:=K.gens m2;omega) qd qd) rfl ?_);rintro _ _ ⟨rfl,rfl⟩;refine qb (q9 rfl qg) ?_;refine qx (qv ?_);refine wx_if rfl (fun h58=>?_) (fun h58=>?_)
        · refine qu (qe ?_);refine qe ?_;refine qe ?_;refine qC rfl (xA qh (K.parents m2 hm2) rfl rfl ?_);rintro _ _ ⟨ap,cp,rfl,rfl⟩;refine qC rfl (qH qh (sp189 w vv bs bq n (P m2).length cp ap (P m2) S ys rfl hPm (by have:=K.len m2;omega)) rfl ?_);rintro _ _ ⟨rfl,rfl⟩;refine qx (qX (qv (qu (qe ?_))));refine qb (qy rfl) ?_;refine qb (qE rfl) ?_;refine qb (qA rfl) ?_;refine qC rfl (qH qh (qpop187 bq (addW (S,ys) (P m2)).2 (by have:=jq (P m2) (S,ys);have:=K.len m2;simp only at *;omega)) rfl ?_);rintro _ _ ⟨m3,ok3,ys3,rfl,hp3,he3,rfl⟩;refine qe ?_;refine qb (qP rfl) ?_;refine qb (qP rfl) ?_;refine qi ?_;refine qi ?_;refine qx ?_;refine qT _ _ ⟨m3,ok3,_,ys3,m2::D,rfl,⟨_,At.eq (.cons rfl (.cons rfl (.cons rfl (.cons rfl (.cons rfl (.cons rfl .nil))))))⟩,fun h=>(he3 h).2,⟨_,hW2.expand (hxp h37) hPm,hp3,fun h=>(he3 h).1⟩,fun h=>by rcases List.mem_cons.1 h with h | h;exact h48 (by rw [h]);exact haD h,rfl⟩ (by rw [if_pos h37];have:=hW2.few;have hl:=(hxp h37).length_eq;simp only [List.length_cons] at hl ⊢;split<;>omega) qh
        · have hnE:¬(a<m2∧(gn m2=1024∨(gn a≠1024∧(gn m2=1023∨gn a<gn m2)))):=fun h=>h58 h.2;refine qF (qX (qv (qu (qe ?_))));refine qb (qy rfl) ?_;refine qb (qE rfl) ?_;refine qb (qA rfl) ?_;refine qC rfl (qH qh (qpop187 bq ys qd) rfl ?_);rintro _ _ ⟨m3,ok3,ys3,rfl,hp3,he3,rfl⟩;refine qe ?_;refine qb (qP rfl) ?_;refine qb (qP rfl) ?_;refine qi ?_;refine qi ?_;refine qx ?_;refine qT _ _ ⟨m3,ok3,_,ys3,m2::D,rfl,⟨_,At.eq (.cons rfl (.cons rfl (.cons rfl (.cons rfl (.cons rfl (.cons rfl .nil))))))⟩,fun h=>(he3 h).2,⟨_,hW2.skip (hxp h37) hnE,hp3,fun h=>(he3 h).1⟩,fun h=>by rcases List.mem_cons.1 h with h | h;exact h48 (by rw [h]);exact haD h,rfl⟩ (by rw [if_pos h37];have:=hW2.few;have hl:=(hxp h37).length_eq;simp only [List.length_cons] at hl ⊢;split<;>omega) qh
      · have hnE:¬(a<m2∧(gn m2=1024∨(gn a≠1024∧(gn m2=1023∨gn a<gn m2)))):=fun h=>h51 qd;refine qe ?_;refine qs (qs (qs (qs (qs (qb (qW rfl qg) ?_)))));refine qx (qv (qB rfl ?_));refine qF (qX (qv (qu (qe ?_))));refine qb (qy rfl) ?_;refine qb (qE rfl) ?_;refine qb (qA rfl) ?_;refine qC rfl (qH qh (qpop187 bq ys qd) rfl ?_);rintro _ _ ⟨m3,ok3,ys3,rfl,hp3,he3,rfl⟩;refine qe ?_;refine qb (qP rfl) ?_;refine qb (qP rfl) ?_;refine qi ?_;refine qi ?_;refine qx ?_;refine qT _ _ ⟨m3,ok3,_,ys3,m2::D,rfl,⟨_,At.eq (.cons rfl (.cons rfl (.cons rfl (.cons rfl (.cons rfl (.cons rfl .nil))))))⟩,fun h=>(he3 h).2,⟨_,hW2.skip (hxp h37) hnE,hp3,fun h=>(he3 h).1⟩,fun h=>by rcases List.mem_cons.1 h with h | h;exact h48 (by rw [h]);exact haD h,rfl⟩ (by rw [if_pos h37];have:=hW2.few;have hl:=(hxp h37).length_eq;simp only [List.length_cons] at hl ⊢;split<;>omega) qh
  · have hxs:=hxe (by simpa using h37);subst hxs;have hz:¬Rch P b a:=hW2.none haD (fun c hc hne hr=>⟨by have:=hr.le K.up;omega,K.may c a hc hne hr⟩) b List.mem_cons_self;refine wk ?_;refine qQ (qQ (ww ?_));refine qv (qw (qu (qo (qo (qx (qv (qL ?_)))))));refine wu rfl rfl (qD qg) (qD qg) _ ⟨false,rfl,⟨fun h=>(by cases h),fun h=>absurd h hz⟩,rfl⟩ qm
end
section
open Go
set_option maxRecDepth 4000
theorem bit8:∀a,a<8→∀b,b<8→(bitop .or .i64 (a:Nat) (b:Nat)=((a ||| b:Nat):Int)∧bitop .and .i64 (a:Nat) (b:Nat)=((a &&& b:Nat):Int))∧a ||| b<8:=by decide
theorem qt_or8 {P:Program} {x y:Operand} {T ty:TypeId} {v:Env} {L:List HProp} {a b:Int} {i j:Nat} {yt:TypeId} (hx:evalE v x=.int .i64 a) (hy:evalE v y=.int .i64 b) (ha:a=(i:Int)) (hb:b=(j:Int)) (hi:i<8) (hj:j<8):Qt P (.binOp .or T x y yt) ty v L (.int .i64 ((i ||| j:Nat):Int)):=by
  subst ha hb;have h:=qt_or (P:=P) (L:=L) (T:=T) (ty:=ty) (yt:=yt) hx hy
  rwa [(bit8 i hi j hj).1.1] at h
theorem j3 {P:Program} {x y:Operand} {T ty:TypeId} {v:Env} {L:List HProp} {a b:Int} {i j:Nat} {yt:TypeId} (hx:evalE v x=.int .i64 a) (hy:evalE v y=.int .i64 b) (ha:a=(i:Int)) (hb:b=(j:Int)) (hi:i<8) (hj:j<8):Qt P (.binOp .and T x y yt) ty v L (.int .i64 ((i &&& j:Nat):Int)):=by
  subst ha hb;have h:=qt_and (P:=P) (L:=L) (T:=T) (ty:=ty) (yt:=yt) hx hy
  rwa [(bit8 i hi j hj).1.2] at h
def wasF:Option Nat→Bool
  | none=>false
  | some x=>decide (x &&& 4=0)
def addF (o:Option Nat) (q:Nat) (fr:Int):Int:=fr+(if wasF (some (o.getD 0 ||| q))&&!wasF o then 1 else 0)-(if wasF o&&!wasF (some (o.getD 0 ||| q)) then 1 else 0)
abbrev pnt (p vv n mb bq:Nat) (fr:Int):HProp:=pt p (cl [.iface 64 (ptr vv),.int .i64 n,.map (some mb),ptr bq,.int .i64 fr] 392)
theorem sp276n (p vv n mb bq:Nat) (fr:Int) (mm:List (Int×Value)) (xs:List Nat) (c q:Nat) (hc:c<n) (hq:q<8) (hfr:0≤fr∧fr≤100000) (hxl:xs.length≤100000) (hl:lookL mm (c:Int)=none):Spec Tryz.prog 276 #[ptr p,.int .i64 c,.int .i64 q]
    (fun T=>pnt p vv n mb bq fr::mpo mb mm::quex 442 479 bq xs::T) (fun r T L=>∃z:Int,z=addF none q fr∧r=.tuple #[]∧L=pnt p vv n mb bq z::mpo mb (putL mm (c:Int) (.int .i64 ((0 ||| q:Nat):Int)))::quex 442 479 bq (c::xs)::T):=by
  refine spec_of (n:=80) (args:=[ptr p,.int .i64 c,.int .i64 q]) Tryz.func276 rfl rfl rfl rfl fun T=>?_;refine qw (qw (qu (qe ?_)));refine wq rfl (wj rfl rfl) qd ?_;refine qe ?_;refine qq (qK qg) ?_;refine qq (qK qg) ?_;refine qq (qy rfl) ?_;refine qq (qE rfl) ?_;refine qq (qA rfl) ?_;refine wR (qG rfl rfl rfl rfl) rfl (w9 rfl rfl) qd ?_;refine qb (qW rfl qg) ?_;refine qx (qv (qB rfl ?_));refine qF (qv (qw (qu (qe ?_))));refine qb (qy rfl) ?_;refine qb (qE rfl) ?_;refine qb (qA rfl) ?_;refine qe ?_;refine qb (ju (κ:=Int) (k:=(c:Int)) rfl rfl rfl qr Tryz.zeroValue3) ?_;refine qe ?_;rw [hl];refine qb (qP rfl) ?_;refine qb (qP rfl) ?_;refine qi ?_;refine qi ?_;refine qx (qv (qw (qu (qe ?_))));refine qb (qy rfl) ?_;refine qb (qE rfl) ?_;refine qb (qA rfl) ?_;refine qe ?_;refine qe ?_;refine qe ?_;refine qb (qt_or8 (i:=0) (j:=q) rfl rfl rfl rfl (by decide) hq) ?_;refine q6 (x6 (κ:=Int) (k:=(c:Int)) rfl rfl qg rfl qr ?_);refine qx (qv (qw (qw (qu (qe ?_)))));refine qb (xH rfl) ?_;refine qx (qv (qN rfl ?_));refine qu (qe ?_);refine qb (qy rfl) ?_;refine qb (qE rfl) ?_;refine qb (qA rfl) ?_;refine qe ?_;refine qC rfl (qH qh (qpush326 bq c xs hxl) rfl ?_);rintro _ _ ⟨rfl,rfl⟩;refine qx (qv (qw (qu (qe ?_))));refine qe ?_;refine qs (qs (qs (qb (qW rfl qg) ?_)));refine qe ?_;refine qe ?_;refine qb (qt_or8 (i:=0) (j:=q) rfl rfl rfl rfl (by decide) hq) ?_;refine qb (j3 (i:=0 ||| q) (j:=4) rfl rfl rfl rfl (bit8 _ (by decide) _ hq).2 (by decide)) ?_;refine wG rfl (wA rfl rfl) (fun h55=>?_) (fun h55=>?_)
  · have hw:wasF none=false:=rfl;have hi:wasF (some (0 ||| q))=true:=by simp only [wasF,decide_eq_true_eq];omega
    refine qi ?_;refine qi ?_;refine qx (qv (qw (qu (qe ?_))));refine qe ?_;refine qq (qK qg) ?_;refine qq (xH rfl) ?_;refine qb (q9 rfl qg) ?_;refine qx (qv (qN rfl ?_));refine qu (qe ?_);refine qb (qy rfl) ?_;refine qb (qE rfl) ?_;refine qb (qA rfl) ?_;refine qb (wa rfl rfl qd) ?_;refine qb (qy rfl) ?_;refine qb (qE rfl) ?_;refine q6 (qV rfl qg rfl ?_);refine qx ?_;refine wM rfl rfl _ ⟨fr+1,(by unfold addF;rw [hw,show (none:Option Nat).getD 0 ||| q=0 ||| q from rfl,hi];simp),rfl,rfl⟩ qm
  · have hw:wasF none=false:=rfl;have hi:wasF (some (0 ||| q))=false:=by simp only [wasF,decide_eq_false_iff_not];omega
    refine qi ?_;refine qi ?_;refine qx (qv (qw (qu (qe ?_))));refine qe ?_;refine qs (qs (qb (qW rfl qg) ?_));refine qx (qv (qB rfl ?_));refine qw (qu (qe ?_));refine qe ?_;refine qs (qs (qb (qW rfl qg) ?_));refine qx (qv (qB rfl ?_));refine qF ?_;refine wM rfl rfl _ ⟨fr,(by unfold addF;rw [hw,show (none:Option Nat).getD 0 ||| q=0 ||| q from rfl,hi];simp),rfl,rfl⟩ qm
theorem sp276y (p vv n mb bq:Nat) (fr:Int) (mm:List (Int×Value)) (xs:List Nat) (c q:Nat) (hc:c<n) (hq:q<8) (hfr:0≤fr∧fr≤100000) (hxl:xs.length≤100000) (o:Nat) (ho:o<8) (hl:lookL mm (c:Int)=some (.int .i64 o)):Spec Tryz.prog 276 #[ptr p,.int .i64 c,.int .i64 q]
    (fun T=>pnt p vv n mb bq fr::mpo mb mm::quex 442 479 bq xs::T) (fun r T L=>∃z:Int,z=addF (some o) q fr∧r=.tuple #[]∧L=pnt p vv n mb bq z::mpo mb (putL mm (c:Int) (.int .i64 ((o ||| q:Nat):Int)))::quex 442 479 bq xs::T):=by
  refine spec_of (n:=80) (args:=[ptr p,.int .i64 c,.int .i64 q]) Tryz.func276 rfl rfl rfl rfl fun T=>?_;refine qw (qw (qu (qe ?_)));refine wq rfl (wj rfl rfl) qd ?_;refine qe ?_;refine qq (qK qg) ?_;refine qq (qK qg) ?_;refine qq (qy rfl) ?_;refine qq (qE rfl) ?_;refine qq (qA rfl) ?_;refine wR (qG rfl rfl rfl rfl) rfl (w9 rfl rfl) qd ?_;refine qb (qW rfl qg) ?_;refine qx (qv (qB rfl ?_));refine qF (qv (qw (qu (qe ?_))));refine qb (qy rfl) ?_;refine qb (qE rfl) ?_;refine qb (qA rfl) ?_;refine qe ?_;refine qb (ju (κ:=Int) (k:=(c:Int)) rfl rfl rfl qr Tryz.zeroValue3) ?_;refine qe ?_;rw [hl];refine qb (qP rfl) ?_;refine qb (qP rfl) ?_;refine qi ?_;refine qi ?_;refine qx (qv (qw (qu (qe ?_))));refine qb (qy rfl) ?_;refine qb (qE rfl) ?_;refine qb (qA rfl) ?_;refine qe ?_;refine qe ?_;refine qe ?_;refine qb (qt_or8 (i:=o) (j:=q) rfl rfl rfl rfl ho hq) ?_;refine q6 (x6 (κ:=Int) (k:=(c:Int)) rfl rfl qg rfl qr ?_);refine qx (qv (qw (qw (qu (qe ?_)))));refine qb (xe rfl) ?_;refine qx (qv (qB rfl ?_));refine qF (qv (qw (qu (qe ?_))));refine qe ?_;refine qq (qK qg) ?_;refine qq (j3 (i:=o) (j:=4) rfl rfl rfl rfl ho (by decide)) ?_;refine xO (qG rfl rfl rfl rfl) rfl (wA rfl rfl) (fun h49=>?_) (fun h49=>?_)
  · have hw:wasF (some o)=true:=by simp only [wasF,decide_eq_true_eq];omega
    refine qb (q9 rfl qg) ?_;refine qe ?_;refine qe ?_;refine qb (qt_or8 (i:=o) (j:=q) rfl rfl rfl rfl ho hq) ?_;refine qb (j3 (i:=o ||| q) (j:=4) rfl rfl rfl rfl (bit8 _ ho _ hq).2 (by decide)) ?_;refine wG rfl (wA rfl rfl) (fun h55=>?_) (fun h55=>?_)
    · have hi:wasF (some (o ||| q))=true:=by simp only [wasF,decide_eq_true_eq];omega
      refine qi ?_;refine qi ?_;refine qx (qv (qw (qu (qe ?_))));refine qe ?_;refine qq (qK qg) ?_;refine qq (xe rfl) ?_;refine qb (q9 rfl qg) ?_;refine qx (qv (qB rfl ?_));refine qw (qu (qe ?_));refine qe ?_;refine qq (qK qg) ?_;refine qq (xe rfl) ?_;refine qb (q9 rfl qg) ?_;refine qx (qv (qB rfl ?_));refine qF ?_;refine wM rfl rfl _ ⟨fr,(by unfold addF;rw [hw,show ((some o):Option Nat).getD 0 ||| q=o ||| q from rfl,hi];simp),rfl,rfl⟩ qm
    · have hi:wasF (some (o ||| q))=false:=by simp only [wasF,decide_eq_false_iff_not];omega
      refine qi ?_;refine qi ?_;refine qx (qv (qw (qu (qe ?_))));refine qe ?_;refine qs (qs (qb (qW rfl qg) ?_));refine qx (qv (qB rfl ?_));refine qw (qu (qe ?_));refine qe ?_;refine qq (qK qg) ?_;refine qq (xH rfl) ?_;refine qb (q9 rfl qg) ?_;refine qx (qv (qN rfl ?_));refine qu (qe ?_);refine qb (qy rfl) ?_;refine qb (qE rfl) ?_;refine qb (qA rfl) ?_;refine qb (wT rfl rfl qd) ?_;refine qb (qy rfl) ?_;refine qb (qE rfl) ?_;refine q6 (qV rfl qg rfl ?_);refine qx ?_;refine wM rfl rfl _ ⟨fr-1,(by unfold addF;rw [hw,show ((some o):Option Nat).getD 0 ||| q=o ||| q from rfl,hi];simp),rfl,rfl⟩ qm
  · have hw:wasF (some o)=false:=by simp only [wasF,decide_eq_false_iff_not];omega
    refine qb (q9 rfl qg) ?_;refine qe ?_;refine qe ?_;refine qb (qt_or8 (i:=o) (j:=q) rfl rfl rfl rfl ho hq) ?_;refine qb (j3 (i:=o ||| q) (j:=4) rfl rfl rfl rfl (bit8 _ ho _ hq).2 (by decide)) ?_;refine wG rfl (wA rfl rfl) (fun h55=>?_) (fun h55=>?_)
    · have hi:wasF (some (o ||| q))=true:=by simp only [wasF,decide_eq_true_eq];omega
      refine qi ?_;refine qi ?_;refine qx (qv (qw (qu (qe ?_))));refine qe ?_;refine qq (qK qg) ?_;refine qq (xH rfl) ?_;refine qb (q9 rfl qg) ?_;refine qx (qv (qN rfl ?_));refine qu (qe ?_);refine qb (qy rfl) ?_;refine qb (qE rfl) ?_;refine qb (qA rfl) ?_;refine qb (wa rfl rfl qd) ?_;refine qb (qy rfl) ?_;refine qb (qE rfl) ?_;refine q6 (qV rfl qg rfl ?_);refine qx ?_;refine wM rfl rfl _ ⟨fr+1,(by unfold addF;rw [hw,show ((some o):Option Nat).getD 0 ||| q=o ||| q from rfl,hi];simp),rfl,rfl⟩ qm
    · have hi:wasF (some (o ||| q))=false:=by simp only [wasF,decide_eq_false_iff_not];omega
      refine qi ?_;refine qi ?_;refine qx (qv (qw (qu (qe ?_))));refine qe ?_;refine qs (qs (qb (qW rfl qg) ?_));refine qx (qv (qB rfl ?_));refine qw (qu (qe ?_));refine qe ?_;refine qs (qs (qb (qW rfl qg) ?_));refine qx (qv (qB rfl ?_));refine qF ?_;refine wM rfl rfl _ ⟨fr,(by unfold addF;rw [hw,show ((some o):Option Nat).getD 0 ||| q=o ||| q from rfl,hi];simp),rfl,rfl⟩ qm
end
section
open Go
set_option maxRecDepth 4000
def gb (G:Nat→Option Nat) (k i:Nat):Bool:=((G k).getD 0).testBit i
def ob (G:Nat→Option Nat) (k i:Nat):Bool:=gb G k i || (decide (i=2)&&gb G k 0&&gb G k 1)
def putG (G:Nat→Option Nat) (c q:Nat):Nat→Option Nat:=fun k=>if k=c then some ((G c).getD 0 ||| q) else G k
def addX (G:Nat→Option Nat) (c:Nat) (xs:List Nat):List Nat:=if (G c).isSome then xs else c::xs
def Stale (P:Nat→List Nat) (l r y:Nat):Prop:=∃d,d≠y∧Rch P l d∧Rch P r d∧Rch P d y
structure PI (n:Nat) (P:Nat→List Nat) (l r:Nat) (G:Nat→Option Nat) (xs D:List Nat) (K:Nat→List Nat) (fr:Int):Prop where
  nd:(D++xs).Nodup
  mem:∀k,(G k).isSome=true↔k∈D∨k∈xs
  lt:∀k,(G k).isSome=true→k<n
  b8:∀k q,G k=some q→q<8
  ord:∀d∈D,∀x∈xs,x<d
  s0:∀k,gb G k 0=true→Rch P l k
  s1:∀k,gb G k 1=true→Rch P r k
  s2:∀k,gb G k 2=true→Stale P l r k
  prp:∀d∈D,∀x∈K d,∀i,i<3→ob G d i=true→gb G x i=true
  cnt:fr=((xs.filter fun x=>wasF (G x)).length:Nat)
theorem gb_some {G:Nat→Option Nat} {k i:Nat} (h:gb G k i=true):(G k).isSome=true:=by
  unfold gb at h;cases hg:G k with
  | none=>rw [hg] at h;simp at h
  | some q=>rfl
theorem kx (G:Nat→Option Nat) (c q k i:Nat):gb (putG G c q) k i=(gb G k i || (decide (k=c)&&q.testBit i)):=by
  unfold gb putG
  by_cases h:k=c
  · subst h;simp [Nat.testBit_or]
  · simp [h]
theorem bits8:∀q,q<8→(decide (q &&& 4=0)=!q.testBit 2)∧(decide (q &&& 3=3)=(q.testBit 0&&q.testBit 1))∧(∀i,i<3→(q ||| 4).testBit i=(q.testBit i || decide (i=2))):=by decide
theorem PI.empty {n:Nat} {P:Nat→List Nat} {l r:Nat}:PI n P l r (fun _=>none) [] [] P 0 :=
  ⟨by simp,by simp,by simp,by simp,by simp,fun k h=>by simp [gb] at h,fun k h=>by simp [gb] at h,fun k h=>by simp [gb] at h,by simp,by simp⟩
theorem filt_upd {f g:Nat→Bool} {c:Nat}:∀ {xs:List Nat},xs.Nodup→(∀x,x≠c→g x=f x)→(((xs.filter g).length:Nat):Int)=((xs.filter f).length:Nat)+(if c∈xs then (if g c then 1 else 0)-(if f c then 1 else 0) else (0:Int))
  | [],_,_=>by simp
  | x::xs,h,hg=>by
    have h1:=List.nodup_cons.1 h;have ih:=filt_upd (c:=c) h1.2 hg
    by_cases hx:x=c
    · subst hx;rw [if_neg h1.1] at ih;simp only [List.filter_cons,List.mem_cons,true_or,if_true];cases g x<;>cases f x<;>simp<;>omega
    · have h2:(c∈x::xs)↔c∈xs:=by simp [Ne.symm hx]
      simp only [List.filter_cons,h2,hg x hx]
      by_cases hf:f x=true
      · rw [if_pos hf,if_pos hf,List.length_cons,List.length_cons];push_cast;omega
      · rw [if_neg hf,if_neg hf];exact ih
theorem PI.add {n:Nat} {P:Nat→List Nat} {l r:Nat} {G:Nat→Option Nat} {xs D:List Nat} {K:Nat→List Nat} {fr:Int} (H:PI n P l r G xs D K fr) {c q:Nat} (hc:c<n) (hq:q<8) (hD:∀d∈D,c<d)
    (t0:q.testBit 0=true→Rch P l c) (t1:q.testBit 1=true→Rch P r c) (t2:q.testBit 2=true→Stale P l r c):PI n P l r (putG G c q) (addX G c xs) D K (addF (G c) q fr):=by
  have hcD:c∉D:=fun h=>Nat.lt_irrefl _ (hD c h);have hx:∀k,k∈addX G c xs↔k∈xs∨k=c:=fun k=>by
    unfold addX
    by_cases hs:(G c).isSome=true
    · rw [if_pos hs];have:=(H.mem c).1 hs;constructor
      · exact .inl
      · rintro (h | rfl)
        · exact h
        · exact this.resolve_left hcD
    · rw [if_neg hs,List.mem_cons,or_comm]
  have hput:∀d∈D,putG G c q d=G d:=fun d hd=>by by_cases e:d=c;exact absurd (e▸hd) hcD;unfold putG;rw [if_neg e]
  refine ⟨?_,fun k=>?_,fun k hk=>?_,fun k p hk=>?_,fun d hd x hxx=>?_,fun k hk=>?_,fun k hk=>?_,fun k hk=>?_,fun d hd x hxx i hi ho=>?_,?_⟩
  · unfold addX
    split
    · exact H.nd
    · rename_i hs;have h1:c∉xs:=fun h=>hs ((H.mem c).2 (.inr h));have h2:=List.nodup_append.1 H.nd;refine List.nodup_append.2 ⟨h2.1,List.nodup_cons.2 ⟨h1,h2.2.1⟩,fun a ha b hb e=>?_⟩;subst e;rcases List.mem_cons.1 hb with rfl | hb
      · exact hcD ha
      · exact h2.2.2 a ha a hb rfl
  · rw [hx];unfold putG
    by_cases hk:k=c
    · subst hk;simp
    · rw [if_neg hk,H.mem];simp [hk]
  · unfold putG at hk
    by_cases h:k=c
    · subst h;exact hc
    · rw [if_neg h] at hk;exact H.lt k hk
  · unfold putG at hk
    by_cases h:k=c
    · rw [if_pos h] at hk;cases hk;refine (bit8 _ ?_ _ hq).2;cases hg:G c with
      | none=>decide
      | some p=>exact H.b8 c p hg
    · rw [if_neg h] at hk;exact H.b8 k p hk
  · rcases (hx x).1 hxx with h | rfl
    · exact H.ord d hd x h
    · exact hD d hd
  all_goals try rw [kx,Bool.or_eq_true,Bool.and_eq_true,decide_eq_true_eq] at hk
  · rcases hk with h | ⟨rfl,h⟩
    · exact H.s0 k h
    · exact t0 h
  · rcases hk with h | ⟨rfl,h⟩
    · exact H.s1 k h
    · exact t1 h
  · rcases hk with h | ⟨rfl,h⟩
    · exact H.s2 k h
    · exact t2 h
  · have h1:ob (putG G c q) d i=ob G d i:=by unfold ob gb;rw [hput d hd]
    rw [h1] at ho;rw [kx,H.prp d hd x hxx i hi ho];rfl
  · have hnd:=(List.nodup_append.1 H.nd).2.1;have hw:∀x,x≠c→wasF (putG G c q x)=wasF (G x):=fun x hxc=>by unfold putG;rw [if_neg hxc]
    have hpc:putG G c q c=some ((G c).getD 0 ||| q):=by unfold putG;rw [if_pos rfl]
    unfold addX
    by_cases hs:(G c).isSome=true
    · rw [if_pos hs,filt_upd hnd hw,←H.cnt,if_pos ((H.mem c).1 hs |>.resolve_left hcD),hpc];unfold addF;cases wasF (some ((G c).getD 0 ||| q))<;>cases wasF (G c)<;>simp<;>omega
    · have h1:c∉xs:=fun h=>hs ((H.mem c).2 (.inr h));have h2:=filt_upd hnd hw;rw [if_neg h1] at h2;rw [if_neg hs,List.filter_cons,hpc];have h3:G c=none:=by simpa using hs
      unfold addF;rw [h3];have h4:=H.cnt;rw [Int.add_zero] at h2;rw [h4,←h2];cases hq2:wasF (some ((none:Option Nat).getD 0 ||| q))<;>simp [show wasF none=false from rfl]
theorem PI.grow {G:Nat→Option Nat} {c q k i:Nat} (h:gb G k i=true):gb (putG G c q) k i=true:=by rw [kx,h];rfl
theorem PI.few {n:Nat} {P:Nat→List Nat} {l r:Nat} {G:Nat→Option Nat} {xs D:List Nat} {K:Nat→List Nat} {fr:Int} (H:PI n P l r G xs D K fr):D.length+xs.length≤n:=by
  have:=vc (m:=List.range n) H.nd fun x hx=>List.mem_range.2 (H.lt x ((H.mem x).2 (by simpa using hx)));simpa using this
theorem PI.frs {n:Nat} {P:Nat→List Nat} {l r:Nat} {G:Nat→Option Nat} {xs D:List Nat} {K:Nat→List Nat} {fr:Int} (H:PI n P l r G xs D K fr):0≤fr∧fr≤xs.length:=by
  have h1:=H.cnt;have h2:=List.length_filter_le (fun x=>wasF (G x)) xs;omega
theorem ob_gb {G:Nat→Option Nat} {k i:Nat} (h:gb G k i=true):ob G k i=true:=by unfold ob;rw [h];rfl
theorem PI.prop {n:Nat} {P:Nat→List Nat} {l r:Nat} {G:Nat→Option Nat} {xs D:List Nat} {fr:Int} (H:PI n P l r G xs D P fr) (up:∀k,∀x∈P k,x<k) {z y i:Nat} (hi:i<3) (hr:Rch P z y) (hq:∀x∈xs,x≤y) (hz:gb G z i=true):gb G y i=true:=by
  induction hr with
  | refl=>exact hz
  | @step a p b hp hr ih =>
    have h1:=up a p hp;have h2:=hr.le up;have h3:a∈D:=((H.mem a).1 (gb_some hz)).resolve_right fun h=>by have:=hq a h;omega
    exact ih hq (H.prp a h3 p hp i hi (ob_gb hz))
theorem PI.exact {n:Nat} {P:Nat→List Nat} {l r:Nat} {G:Nat→Option Nat} {xs D:List Nat} {fr:Int} (H:PI n P l r G xs D P fr) (up:∀k,∀x∈P k,x<k) (hl:gb G l 0=true) (hr:gb G r 1=true) {y:Nat} (hq:∀x∈xs,x≤y) :
    (gb G y 0=true↔Rch P l y)∧(gb G y 1=true↔Rch P r y)∧(gb G y 2=true↔Stale P l r y):=by
  refine ⟨⟨H.s0 y,fun h=>H.prop up qd h hq hl⟩,⟨H.s1 y,fun h=>H.prop up qd h hq hr⟩,⟨H.s2 y,fun ⟨d,hne,h1,h2,h3⟩=>?_⟩⟩;have hle:=h3.le up;have hqd:∀x∈xs,x≤d:=fun x hx=>by have:=hq x hx;omega
  have g0:=H.prop up qd h1 hqd hl;have g1:=H.prop up qd h2 hqd hr;have hD:d∈D:=((H.mem d).1 (gb_some g0)).resolve_right fun h=>by have:=hq d h;omega
  cases h3 with
  | refl=>exact absurd rfl hne
  | @step _ p _ hp h3=>exact H.prop up qd h3 hq (H.prp d hD p hp 2 qd (by unfold ob;rw [g0,g1];simp))
theorem PI.pop {n:Nat} {P:Nat→List Nat} {l r:Nat} {G:Nat→Option Nat} {xs ys D:List Nat} {fr:Int} (H:PI n P l r G xs D P fr) {c:Nat} (hp:xs.Perm (c::ys)) (hm:∀y∈xs,y≤c) :
    PI n P l r G ys (c::D) (fun d=>if d=c then [] else P d) (fr-if wasF (G c) then 1 else 0):=by
  have hpp:(D++xs).Perm (c::D++ys):=(List.Perm.append_left D hp).trans (by simpa using (List.perm_middle (a:=c) (l₁:=D) (l₂:=ys)));have hnd:=hpp.nodup_iff.1 H.nd;refine ⟨hnd,fun k=>?_,H.lt,H.b8,fun d hd x hx=>?_,H.s0,H.s1,H.s2,fun d hd x hx i hi ho=>?_,?_⟩
  · have:=hpp.mem_iff (a:=k);rw [H.mem,←List.mem_append,this];simp [or_assoc]
  · have hxs:x∈xs:=hp.mem_iff.2 (List.mem_cons_of_mem _ hx);rcases List.mem_cons.1 hd with rfl | hd
    · have h1:=hm x hxs;have h2:x≠d:=fun e=>by
        subst e;have h3:=(List.nodup_append.1 hnd).2.2 x List.mem_cons_self x hx;exact h3 rfl
      omega
    · exact H.ord d hd x hxs
  · by_cases h:d=c
    · rw [if_pos h] at hx;simp at hx
    · rw [if_neg h] at hx;exact H.prp d ((List.mem_cons.1 hd).resolve_left h) x hx i hi ho
  · have h1:=(hp.filter fun x=>wasF (G x)).length_eq;have h2:=H.cnt;rw [List.filter_cons] at h1
    split at h1<;>rename_i h3<;>simp only [h3,List.length_cons] at h1 ⊢<;>simp<;>omega
theorem PI.ext {n:Nat} {P:Nat→List Nat} {l r:Nat} {G:Nat→Option Nat} {xs D Q Q':List Nat} {fr:Int} {c u:Nat} (H:PI n P l r G xs D (fun d=>if d=c then Q else P d) fr) (hu:∀i,i<3→ob G c i=true→gb G u i=true) (hQ:∀x∈Q',x∈Q∨x=u) :
    PI n P l r G xs D (fun d=>if d=c then Q' else P d) fr:=by
  refine ⟨H.nd,H.mem,H.lt,H.b8,H.ord,H.s0,H.s1,H.s2,fun d hd x hx i hi ho=>?_,H.cnt⟩
  by_cases h:d=c
  · subst h;rw [if_pos rfl] at hx;rcases hQ x hx with h | rfl
    · exact H.prp d hd x (by rw [if_pos rfl];exact h) i hi ho
    · exact hu i hi ho
  · rw [if_neg h] at hx;exact H.prp d hd x (by rw [if_neg h];exact hx) i hi ho
theorem PI.all {n:Nat} {P:Nat→List Nat} {l r:Nat} {G:Nat→Option Nat} {xs D Q:List Nat} {fr:Int} {c:Nat} (H:PI n P l r G xs D (fun d=>if d=c then Q else P d) fr) (hQ:Q=P c):PI n P l r G xs D P fr:=by
  have h:(fun d=>if d=c then Q else P d)=P:=by
    funext d
    by_cases h:d=c
    · rw [if_pos h,h,hQ]
    · rw [if_neg h]
  rwa [h] at H
theorem PI.sound {n:Nat} {P:Nat→List Nat} {l r:Nat} {G:Nat→Option Nat} {xs D:List Nat} {K:Nat→List Nat} {fr:Int} (H:PI n P l r G xs D K fr) (up:∀k,∀x∈P k,x<k) {c u:Nat} (hu:u∈P c) :
    (ob G c 0=true→Rch P l u)∧(ob G c 1=true→Rch P r u)∧(ob G c 2=true→Stale P l r u):=by
  have h0:=up c u hu;refine ⟨fun h=>(H.s0 c (by simpa [ob] using h)).snoc hu,fun h=>(H.s1 c (by simpa [ob] using h)).snoc hu,fun h=>?_⟩;unfold ob at h;simp only [decide_true,Bool.true_and,Bool.or_eq_true,Bool.and_eq_true] at h;rcases h with h | ⟨h1,h2⟩
  · obtain ⟨d,hne,g1,g2,g3⟩:=H.s2 c h;exact ⟨d,by have:=g3.le up;omega,g1,g2,g3.snoc hu⟩
  · exact ⟨c,by omega,H.s0 c h1,H.s1 c h2,.step hu (.refl u)⟩
theorem PI.fin {n:Nat} {P:Nat→List Nat} {l r:Nat} {G:Nat→Option Nat} {xs D:List Nat} {fr:Int} (H:PI n P l r G xs D P fr) (up:∀k,∀x∈P k,x<k) (hl:gb G l 0=true) (hr:gb G r 1=true) (h0:fr≤0) (j:Nat) :
    (j∈D∧gb G j 0=true∧gb G j 1=true∧¬gb G j 2=true)↔(Rch P l j∧Rch P r j∧¬Stale P l r j):=by
  have hst:∀x∈xs,Stale P l r x:=fun x hx=>by
    have h1:=H.cnt;have h2:(xs.filter fun x=>wasF (G x)).length=0:=by omega
    have h3:=List.filter_eq_nil_iff.1 (List.length_eq_zero_iff.1 h2) x hx;have h4:=(H.mem x).2 (.inr hx);obtain ⟨q,hq⟩:=Option.isSome_iff_exists.1 h4;refine H.s2 x ?_;unfold gb;rw [hq] at h3 ⊢;have h5:=(bits8 q (H.b8 x q hq)).1;simp only [wasF,h5] at h3;simpa using h3
  have key:∀ {z y i:Nat},i<3→Rch P z y→¬Stale P l r y→gb G z i=true→gb G y i=true∧y∈D:=by
    intro z y i hi hr;have stp:∀ {a b:Nat},Rch P a b→¬Stale P l r b→gb G a i=true→a∈D:=fun {a b} hab hb ha =>
      ((H.mem a).1 (gb_some ha)).resolve_right fun h=>hb (by
        obtain ⟨d,hne,g1,g2,g3⟩:=hst a h;refine ⟨d,?_,g1,g2,g3.trans hab⟩;have:=g3.le up;have:=hab.le up;omega)
    induction hr with
    | refl a=>exact fun h1 h2=>⟨h2,stp (.refl a) h1 h2⟩
    | @step a p b hp hr ih =>
      exact fun h1 h2=>ih h1 (H.prp a (stp (.step hp hr) h1 h2) p hp i hi (ob_gb h2))
  constructor
  · rintro ⟨h1,h2,h3,h4⟩;have he:=H.exact up hl hr (y:=j) fun x hx=>Nat.le_of_lt (H.ord j h1 x hx);exact ⟨he.1.1 h2,he.2.1.1 h3,fun h=>h4 (he.2.2.2 h)⟩
  · rintro ⟨h1,h2,h3⟩;obtain ⟨g0,hD⟩:=key (i:=0) qd h1 h3 hl;exact ⟨hD,g0,(key (i:=1) qd h2 h3 hr).1,fun h=>h3 (H.s2 j h)⟩
theorem PI.start {n:Nat} {P:Nat→List Nat} {l r:Nat} (hl:l<n) (hr:r<n) :
    PI n P l r (putG (putG (fun _=>none) l 1) r 2) (addX (putG (fun _=>none) l 1) r (addX (fun _=>none) l [])) [] P (addF (putG (fun _=>none) l 1 r) 2 (addF none 1 0))∧gb (putG (putG (fun _=>none) l 1) r 2) l 0=true∧gb (putG (putG (fun _=>none) l 1) r 2) r 1=true:=by
  have h1:=(PI.empty (n:=n) (P:=P) (l:=l) (r:=r)).add (c:=l) (q:=1) hl (by decide) (by simp) (fun _=>.refl l) (fun h=>absurd h (by decide)) (fun h=>absurd h (by decide));have h2:=h1.add (c:=r) (q:=2) hr (by decide) (by simp) (fun h=>absurd h (by decide)) (fun _=>.refl r) (fun h=>absurd h (by decide));exact ⟨h2,by rw [kx,kx];simp,by rw [kx];simp;right;decide⟩
theorem jn {κ:Type} [DecidableEq κ]:∀(m:List (κ×Value)) (k x:κ) (v:Value),lookL (putL m k v) x=if x=k then some v else lookL m x
  | [],k,x,v=>rfl
  | e::m,k,x,v=>by
    unfold putL
    by_cases h:k=e.1
    · rw [if_pos h];simp only [lookL]
      by_cases hx:x=k
      · simp [hx]
      · rw [if_neg hx,if_neg hx,if_neg (fun e'=>hx (e'.trans h.symm))]
    · rw [if_neg h];simp only [lookL]
      by_cases hx:x=e.1
      · rw [if_pos hx,if_pos hx,if_neg (fun e'=>h (e'.symm.trans hx))]
      · rw [if_neg hx,if_neg hx,jn m k x v]
abbrev MG (mm:List (Int×Value)) (G:Nat→Option Nat):Prop:=∀k:Nat,lookL mm (k:Int)=(G k).map fun x=>.int .i64 ((x:Nat):Int)
theorem mg_put {mm:List (Int×Value)} {G:Nat→Option Nat} {c q o:Nat} (h:MG mm G) (ho:(G c).getD 0=o):MG (putL mm (c:Int) (.int .i64 ((o ||| q:Nat):Int))) (putG G c q):=fun k=>by
  rw [jn];unfold putG
  by_cases hk:k=c
  · subst hk;rw [if_pos rfl,if_pos rfl,ho];rfl
  · rw [if_neg qd,if_neg hk];exact h k
theorem padd (p vv n mb bq:Nat) (fr:Int) (mm:List (Int×Value)) (G:Nat→Option Nat) (xs:List Nat) (c q:Nat) (hm:MG mm G) (h8:∀k x,G k=some x→x<8) (hc:c<n) (hq:q<8) (hfr:0≤fr∧fr≤100000) (hxl:xs.length≤100000) :
    Spec Tryz.prog 276 #[ptr p,.int .i64 c,.int .i64 q] (fun T=>pnt p vv n mb bq fr::mpo mb mm::quex 442 479 bq xs::T)
      (fun r T L=>∃mm',MG mm' (putG G c q)∧r=.tuple #[]∧L=pnt p vv n mb bq (addF (G c) q fr)::mpo mb mm'::quex 442 479 bq (addX G c xs)::T):=by
  have hl:=hm c;cases hg:G c with
  | none =>
    rw [hg] at hl;refine (sp276n p vv n mb bq fr mm xs c q hc hq hfr hxl hl).mono (fun _ _ h=>h) fun r T L ⟨z,hz,h1,h2⟩=>⟨L,⟨_,mg_put hm (o:=0) (by rw [hg];rfl),h1,?_⟩,fun _ h=>h⟩
    rw [h2,hz,show addX G c xs=c::xs by unfold addX;rw [hg];rfl]
  | some o =>
    rw [hg] at hl;refine (sp276y p vv n mb bq fr mm xs c q hc hq hfr hxl o (h8 c o hg) hl).mono (fun _ _ h=>h) fun r T L ⟨z,hz,h1,h2⟩=>⟨L,⟨_,mg_put hm (o:=o) (by rw [hg];rfl),h1,?_⟩,fun _ h=>h⟩
    rw [h2,hz,show addX G c xs=xs by unfold addX;rw [hg];rfl]
theorem mputn (b size i:Nat) (S:Nat→Bool) (hi:i<size) (h:S i=false):Spec Tryz.prog 194 #[ptr b,.int .i64 i] (fun T=>setx b size S::T) (fun r T L=>r=.bool true∧L=setx b size (fun j=>S j || decide (j=i))::T) :=
  (mput b size i S hi).mono (fun _ _ h=>h) fun r T L ⟨h1,h2⟩=>⟨L,⟨by rw [h1,h];rfl,h2⟩,fun _ h=>h⟩
theorem mhasn (b size i:Nat) (S:Nat→Bool) (hi:i<size) (h:S i=false):Spec Tryz.prog 195 #[ptr b,.int .i64 i] (fun T=>setx b size S::T) (fun r T L=>r=.bool false∧L=setx b size S::T) :=
  (mhas b size i S hi).mono (fun _ _ h=>h) fun r T L ⟨h1,h2⟩=>⟨L,⟨by rw [h1,h],h2⟩,fun _ h=>h⟩
end
section
open Go
set_option maxRecDepth 4000
theorem gb_q {G:Nat→Option Nat} {c q i:Nat} (h:G c=some q):gb G c i=q.testBit i:=by unfold gb;rw [h];rfl
theorem ob_q {G:Nat→Option Nat} {c q i:Nat} (h:G c=some q):ob G c i=(q.testBit i || (decide (i=2)&&q.testBit 0&&q.testBit 1)):=by unfold ob;rw [gb_q h,gb_q h,gb_q h]
theorem pb_found {G:Nat→Option Nat} {c q:Nat} (h:G c=some q) (hq:q<8) (t0:q.testBit 0=true) (t1:q.testBit 1=true):∀i,i<3→(q ||| 4).testBit i=ob G c i:=fun i hi=>by rw [ob_q h,(bits8 q hq).2.2 i hi,t0,t1];simp
theorem pb_no {G:Nat→Option Nat} {c q:Nat} (h:G c=some q) (t:(q.testBit 0&&q.testBit 1)=false):∀i,i<3→q.testBit i=ob G c i:=fun i hi=>by rw [ob_q h,Bool.and_assoc,t];simp
theorem pb_stale {G:Nat→Option Nat} {c q:Nat} (h:G c=some q) (t:q.testBit 2=true):∀i,i<3→q.testBit i=ob G c i:=fun i hi=>by
  rw [ob_q h]
  by_cases e:i=2
  · subst e;rw [t];rfl
  · simp [e]
theorem f2_found {G:Nat→Option Nat} {c q:Nat} {F:Nat→Bool} {D:List Nat} (h:G c=some q) (t0:q.testBit 0=true) (t1:q.testBit 1=true) (t2:q.testBit 2=false) (hF:∀j,F j=true↔(j∈D∧gb G j 0=true∧gb G j 1=true∧¬gb G j 2=true)) :
    ∀j,(F j || decide (j=c))=true↔(j∈c::D∧gb G j 0=true∧gb G j 1=true∧¬gb G j 2=true):=fun j=>by
  rw [Bool.or_eq_true,decide_eq_true_eq,hF j,List.mem_cons];constructor
  · rintro (h | rfl)
    · exact ⟨.inr h.1,h.2⟩
    · exact ⟨.inl rfl,by rw [gb_q h];exact t0,by rw [gb_q h];exact t1,by rw [gb_q h,t2];simp⟩
  · rintro ⟨rfl | h,h2⟩
    · exact .inr rfl
    · exact .inl ⟨h,h2⟩
theorem f2_no {G:Nat→Option Nat} {c:Nat} {F:Nat→Bool} {D:List Nat} (hn:¬(gb G c 0=true∧gb G c 1=true∧¬gb G c 2=true)) (hF:∀j,F j=true↔(j∈D∧gb G j 0=true∧gb G j 1=true∧¬gb G j 2=true)) :
    ∀j,F j=true↔(j∈c::D∧gb G j 0=true∧gb G j 1=true∧¬gb G j 2=true):=fun j=>by
  rw [hF j,List.mem_cons];exact ⟨fun h=>⟨.inr h.1,h.2⟩,fun h=>⟨h.1.resolve_left fun e=>by subst e;exact hn h.2,h.2⟩⟩
theorem f2_end {G G':Nat→Option Nat} {F:Nat→Bool} {D:List Nat} (hG:∀d∈D,G' d=G d) (hF:∀j,F j=true↔(j∈D∧gb G j 0=true∧gb G j 1=true∧¬gb G j 2=true)) :
    ∀j,F j=true↔(j∈D∧gb G' j 0=true∧gb G' j 1=true∧¬gb G' j 2=true):=fun j=>by
  rw [hF j];have key:∀i,j∈D→gb G' j i=gb G j i:=fun i h=>by unfold gb;rw [hG j h]
  exact ⟨fun ⟨h,h2⟩=>⟨h,by rw [key _ h,key _ h,key _ h];exact h2⟩,fun ⟨h,h2⟩=>⟨h,by rw [key _ h,key _ h,key _ h] at h2;exact h2⟩⟩
theorem wasF_q {q:Nat} (h:q<8):wasF (some q)=!q.testBit 2:=(bits8 q h).1
theorem sp277 (vv n:Nat) (P:Nat→List Nat) (gn:Nat→Nat) (A:HProp) (K:SrcOk vv n P gn A) (p mb bq la ra:Nat) (fr:Int) (mm:List (Int×Value)) (G:Nat→Option Nat) (xs:List Nat) (hm:MG mm G) (HI:PI n P la ra G xs [] P fr) (hla:gb G la 0=true) (hra:gb G ra 1=true):Spec Tryz.prog 277 #[ptr p]
    (fun T=>tabA::pnt p vv n mb bq fr::mpo mb mm::quex 442 479 bq xs::A::T) (fun r T L=>∃a cap F,(∀j,F j=true↔(Rch P la j∧Rch P ra j∧¬Stale P la ra j))∧r=.slice a (listS n F).length cap∧L=rdi a (listS n F).length cap (listS n F)::tabA::A::T):=by
  refine spec_of (n:=85) (args:=[ptr p]) Tryz.func277 rfl rfl rfl rfl fun T=>?_;have hfew:=K.few;refine qw (qu (qo (qx (qv (qw (qu (qe ?_)))))));refine qb (qy rfl) ?_;refine qb (qE rfl) ?_;refine qb (qA rfl) ?_;refine qC rfl (qH qh (mnew n qd) rfl ?_);rintro _ _ ⟨bf,rfl,rfl⟩;refine qi ?_;refine qx (qv (qw (qu (qe ?_))));refine qb (qy rfl) ?_;refine qb (qE rfl) ?_;refine qb (qA rfl) ?_;refine qC rfl (qH qh (mnew n qd) rfl ?_);rintro _ _ ⟨bd,rfl,rfl⟩;refine qi ?_;refine qx (qv (qw (qJ (q7 (fun m v L=>∃(mm1:List (Int×Value)) (G1:Nat→Option Nat) (xs1 D:List Nat) (S F:Nat→Bool) (fr1:Int),n-D.length=m∧(∃v0,v=ups v0 [(0,ptr p),(3,ptr bf),(4,ptr bd)])∧(MG mm1 G1)∧(PI n P la ra G1 xs1 D P fr1)∧(gb G1 la 0=true)∧(gb G1 ra 1=true)∧(∀j,S j=true↔j∈D)∧(∀j,F j=true↔(j∈D∧gb G1 j 0=true∧gb G1 j 1=true∧¬gb G1 j 2=true))∧L=setx bf n F::setx bd n S::tabA::pnt p vv n mb bq fr1::mpo mb mm1::quex 442 479 bq xs1::A::T) _ _ ⟨mm,G,xs,[],(fun _=>false),(fun _=>false),fr,rfl,⟨_,At.eq (.cons rfl (.cons rfl (.cons rfl .nil)))⟩,hm,HI,hla,hra,by simp,by simp,rfl⟩ qh ?_))));rintro m _ _ ⟨mm1,G1,xs1,D,S,F,fr1,rfl,⟨v0,rfl⟩,hm1,HI1,hla1,hra1,hS,hF1,rfl⟩;refine qw (qw (qu (qe ?_)));refine qb (qy rfl) ?_;refine qb (qE rfl) ?_;refine qb (qA rfl) ?_;refine wG rfl (wS rfl rfl) (fun h25=>?_) (fun h25=>?_)
  · have hxne:xs1≠[]:=by
      rintro rfl;have:=HI1.frs;simp at this;omega
    have hxl:xs1.length≤100000:=by have:=HI1.few;omega
    have hfb:=HI1.frs;refine qx (qv (qN rfl ?_));refine qF (qv (qJ (qw (qu (qe ?_)))));refine qb (qy rfl) ?_;refine qb (qE rfl) ?_;refine qb (qA rfl) ?_;refine qC rfl (qH qh (qpop327y bq xs1 qd hxne) rfl ?_);rintro _ _ ⟨m2,ys,rfl,hp,hmax,rfl⟩;have hmx:m2∈xs1:=hp.mem_iff.2 List.mem_cons_self;have hGs:=(HI1.mem m2).2 (.inr hmx);have hmn:=HI1.lt m2 hGs;obtain ⟨q0,hq0⟩:=Option.isSome_iff_exists.1 hGs;have hq8:=HI1.b8 m2 q0 hq0;have hlk:lookL mm1 (m2:Int)=some (.int .i64 q0):=by rw [hm1,hq0];rfl
    have hnD:m2∉D:=fun h=>Nat.lt_irrefl _ (HI1.ord m2 h m2 hmx);have hSm:S m2=false:=by rw [←Bool.not_eq_true,hS];exact hnD
    have HP:=HI1.pop hp hmax;have hb8:=bits8 q0 hq8;have hwf:=wasF_q hq8;have hyl:ys.length≤n:=by have:=HP.few;omega
    refine qe ?_;refine qb (qP rfl) ?_;refine qb (qP rfl) ?_;refine qi ?_;refine qi ?_;refine qx (qv (qw (qu (qe ?_))));refine qi ?_;refine qx (qv (qw (qu (qe ?_))));refine qb (qy rfl) ?_;refine qb (qE rfl) ?_;refine qb (qA rfl) ?_;refine qe ?_;refine qb (j1 (κ:=Int) (k:=(m2:Int)) rfl rfl rfl qr Tryz.zeroValue3) ?_;rw [hlk];refine qi ?_;refine qx (qv (qw (qw (qu (qe ?_)))));refine qe ?_;refine qC rfl (qH qh (mputn bd n m2 S hmn hSm) rfl ?_);rintro _ _ ⟨rfl,rfl⟩;refine qb (xe rfl) ?_;refine qx (qv (qB rfl ?_));refine qF (qv ?_);refine wx_cutE (fun v L=>∃(po:Nat) (F2:Nat→Bool) (fr2:Int),(∃v0,v=ups v0 [(0,ptr p),(3,ptr bf),(4,ptr bd),(7,.int .i64 m2),(8,.int .i64 po)])∧(po<8)∧(∀i,i<3→po.testBit i=ob G1 m2 i)∧(∀j,F2 j=true↔(j∈m2::D∧gb G1 j 0=true∧gb G1 j 1=true∧¬gb G1 j 2=true))∧(fr2=fr1-if wasF (G1 m2) then 1 else 0)∧L=setx bf n F2::setx bd n (fun j=>S j || decide (j=m2))::tabA::pnt p vv n mb bq fr2::mpo mb mm1::quex 442 479 bq ys::A::T) ?_ ?_
    · refine qw (qu (qe ?_));refine qb (j3 (i:=q0) (j:=4) rfl rfl rfl rfl hq8 (by decide)) ?_;refine wG rfl (wA rfl rfl) (fun h47=>?_) (fun h47=>?_)
      · have t2:q0.testBit 2=false:=by have h1:=hb8.1;rw [decide_eq_true (by omega:q0 &&& 4=0)] at h1;simpa using h1
        refine qx (qv (qN rfl ?_));refine qw (qu (qe ?_));refine qb (qy rfl) ?_;refine qb (qE rfl) ?_;refine qb (qA rfl) ?_;refine qb (wT rfl rfl qd) ?_;refine qb (qy rfl) ?_;refine qb (qE rfl) ?_;refine q6 (qV rfl qg rfl ?_);refine qx (qv (qw (qu (qe ?_))));refine qb (j3 (i:=q0) (j:=3) rfl rfl rfl rfl hq8 (by decide)) ?_;refine wG rfl (wA rfl rfl) (fun h57=>?_) (fun h57=>?_)
        · have t01:(q0.testBit 0&&q0.testBit 1)=true:=by have h1:=hb8.2.1;rw [decide_eq_true (by omega:q0 &&& 3=3)] at h1;exact h1.symm
          have t0:q0.testBit 0=true:=(Bool.and_eq_true _ _▸t01).1;have t1:q0.testBit 1=true:=(Bool.and_eq_true _ _▸t01).2;refine qx (qv (qN rfl ?_));refine qw (qu (qe ?_));refine qe ?_;refine qC rfl (qH qh (mput bf n m2 F hmn) rfl ?_);rintro _ _ ⟨rfl,rfl⟩;refine qx (qv (qu (qe ?_)));refine qb (qt_or8 (i:=q0) (j:=4) rfl rfl rfl rfl hq8 (by decide)) ?_;refine qi ?_;refine qx ?_;refine yx _ ⟨q0 ||| 4,(fun j=>F j || decide (j=m2)),fr1-1,⟨_,At.eq (.cons rfl (.cons rfl (.cons rfl (.cons rfl (.cons rfl .nil)))))⟩,(bit8 q0 hq8 4 (by decide)).2,pb_found hq0 hq8 t0 t1,f2_found hq0 t0 t1 t2 hF1,(by rw [hq0,hwf,t2];simp),rfl⟩ qh
        · have t01:(q0.testBit 0&&q0.testBit 1)=false:=by have h1:=hb8.2.1;rw [decide_eq_false (by omega:¬q0 &&& 3=3)] at h1;exact h1.symm
          have hnot:¬(gb G1 m2 0=true∧gb G1 m2 1=true∧¬gb G1 m2 2=true):=fun h=>by rw [gb_q hq0,gb_q hq0] at h;rw [h.1,h.2.1] at t01;cases t01
          refine qx (qv (qB rfl ?_));refine qF ?_;refine yx _ ⟨q0,F,fr1-1,⟨_,At.eq (.cons rfl (.cons rfl (.cons rfl (.cons rfl (.cons rfl .nil)))))⟩,hq8,pb_no hq0 t01,f2_no hnot hF1,(by rw [hq0,hwf,t2];simp),rfl⟩ qh
      · have t2:q0.testBit 2=true:=by have h1:=hb8.1;rw [decide_eq_false (by omega:¬q0 &&& 4=0)] at h1;simpa using h1
        have hnot:¬(gb G1 m2 0=true∧gb G1 m2 1=true∧¬gb G1 m2 2=true):=fun h=>h.2.2 (by rw [gb_q hq0];exact t2);refine qx (qv (qB rfl ?_));refine qF ?_;refine yx _ ⟨q0,F,fr1,⟨_,At.eq (.cons rfl (.cons rfl (.cons rfl (.cons rfl (.cons rfl .nil)))))⟩,hq8,pb_stale hq0 t2,f2_no hnot hF1,(by rw [hq0,hwf,t2];simp),rfl⟩ qh
    · rintro _ _ ⟨po,F2,fr2,⟨v0,rfl⟩,hpo,hpb,hF2,hfr2,rfl⟩;subst hfr2;refine qw (qu (qe ?_));refine qb (qy rfl) ?_;refine qb (qE rfl) ?_;refine qb (qA rfl) ?_;refine qe ?_;refine qC rfl (xA qh (K.parents m2 hmn) rfl rfl ?_);rintro _ _ ⟨ap,cp,rfl,rfl⟩;have hPl:=K.len m2;refine qb (qI rfl) ?_;refine qb wH ?_;refine qx (qv (qJ (q7 (fun m v L=>∃(k:Nat) (mm2:List (Int×Value)) (G2:Nat→Option Nat) (xs2:List Nat) (fr3:Int),(P m2).length-k=m∧(∃v0,v=ups v0 [(0,ptr p),(3,ptr bf),(4,ptr bd),(7,.int .i64 m2),(8,.int .i64 po),(68,.slice ap (P m2).length cp),(69,.int .i64 (P m2).length),(70,.int .i64 k)])∧(k≤(P m2).length)∧(MG mm2 G2)∧(PI n P la ra G2 xs2 (m2::D) (fun d=>if d=m2 then (P m2).take k else P d) fr3)∧(∀d∈m2::D,G2 d=G1 d)∧(gb G2 la 0=true)∧(gb G2 ra 1=true)∧L=rdi ap (P m2).length cp (P m2)::setx bf n F2::setx bd n (fun j=>S j || decide (j=m2))::tabA::pnt p vv n mb bq fr3::mpo mb mm2::quex 442 479 bq xs2::A::T) _ _ ⟨0,mm1,G1,ys,_,rfl,⟨_,At.eq (.cons rfl (.cons rfl (.cons rfl (.cons rfl (.cons rfl (.cons rfl (.cons rfl (.cons rfl .nil))))))))⟩,by omega,hm1,HP,fun _ _=>rfl,hla1,hra1,rfl⟩ qh ?_)));rintro m _ _ ⟨k,mm2,G2,xs2,fr3,rfl,⟨v0,rfl⟩,hk,hm2,HI3,hG2,hla2,hra2,rfl⟩;refine qw (qu ?_);refine wG rfl (wj rfl rfl) (fun h71=>?_) (fun h71=>?_)
      · have hkl:k<(P m2).length:=by omega
        have hum:(P m2).getD k 0∈P m2:=w6 (d:=0) hkl;have hup:=K.up m2 _ hum;have hle:∀d∈m2::D,m2≤d:=fun d hd=>by rcases List.mem_cons.1 hd with rfl | hd;exact Nat.le_refl _;exact Nat.le_of_lt (HI1.ord d hd m2 hmx)
        have hne:∀d∈m2::D,d≠(P m2).getD k 0:=fun d hd e=>by have:=hle d hd;omega
        have hSu:(fun j=>S j || decide (j=m2)) ((P m2).getD k 0)=false:=by
          simp only [Bool.or_eq_false_iff,decide_eq_false_iff_not];exact ⟨by rw [←Bool.not_eq_true,hS];exact fun h=>hne _ (List.mem_cons_of_mem _ h) rfl,fun e=>hne _ List.mem_cons_self e.symm⟩
        have hg2:G2 m2=G1 m2:=hG2 m2 List.mem_cons_self;have hobe:∀i,ob G2 m2 i=ob G1 m2 i:=fun i=>by unfold ob gb;rw [hg2]
        have hsd:=HI3.sound K.up hum;rw [hobe,hobe,hobe,←hpb 0 qd,←hpb 1 qd,←hpb 2 qd] at hsd;have HI4:=HI3.add (c:=(P m2).getD k 0) (q:=po) qd hpo (fun d hd=>by have:=hle d hd;omega) hsd.1 hsd.2.1 hsd.2.2;have hob4:∀i,ob (putG G2 ((P m2).getD k 0) po) m2 i=ob G2 m2 i:=fun i=>by unfold ob gb putG;rw [if_neg (hne m2 List.mem_cons_self)]
        refine wK (a:=ap) (xs:=ints (P m2)) qr (by rw [List.length_map];omega) fun b off l E fz ha hl=>?_;subst ha;refine qx (qv (qw (qN rfl ?_)));refine qF (qv (qw (qJ (qw (qu (qb (wz rfl rfl rfl qd) ?_))))));refine qb (q8 rfl ((hl _ (by rw [List.length_map];omega)).trans (w5 0 qd))) ?_;refine qi ?_;refine qx (qv (qw (qu (qe ?_))));refine qe ?_;refine qC rfl (qH qh (mhasn bd n ((P m2).getD k 0) (fun j=>S j || decide (j=m2)) qd hSu) rfl ?_);rintro _ _ ⟨rfl,rfl⟩;refine qb (xH rfl) ?_;refine qx (qv (qN rfl ?_));refine qu (qe ?_);refine qe ?_;refine qe ?_;refine qC rfl (qH qh (padd p vv n mb bq fr3 mm2 G2 xs2 ((P m2).getD k 0) po hm2 HI3.b8 qd hpo (by have:=HI3.frs;have:=HI3.few;omega) (by have:=HI3.few;omega)) rfl ?_);rintro _ _ ⟨mm3,hm3,rfl,rfl⟩;refine qx (qX (qv (qu (qb (wa rfl rfl qd) ?_))));refine qe ?_;refine qx ?_;refine qT _ _ ⟨k+1,mm3,_,_,_,rfl,⟨_,At.eq (.cons rfl (.cons rfl (.cons rfl (.cons rfl (.cons rfl (.cons rfl (.cons rfl (.cons rfl .nil))))))))⟩,by omega,hm3,(by rw [wU (d:=0) hkl];exact HI4.ext (u:=(P m2).getD k 0) (fun i hi ho=>by rw [kx,hpb i hi,←hobe i,←hob4 i,ho];simp) (fun x hx=>by simpa using hx)),fun d hd=>by unfold putG;rw [if_neg (hne d hd)];exact hG2 d hd,PI.grow hla2,PI.grow hra2,rfl⟩ qd qh
      · obtain rfl:k=(P m2).length:=by omega
        have HI5:=HI3.all (by rw [List.take_length]);refine qx (qv (qw (qB rfl ?_)));refine wk ?_;refine qQ (qQ (ww ?_));refine qX ?_;refine qT _ _ ⟨mm2,G2,xs2,m2::D,(fun j=>S j || decide (j=m2)),F2,fr3,rfl,⟨_,At.eq (.cons rfl (.cons rfl (.cons rfl .nil)))⟩,hm2,HI5,hla2,hra2,fun j=>by rw [Bool.or_eq_true,decide_eq_true_eq,hS,List.mem_cons,or_comm],f2_end hG2 hF2,rfl⟩ (by have:=HI5.few;simp only [List.length_cons] at this ⊢;omega) qh
  · have hFin:=HI1.fin K.up hla1 hra1 qd;refine qx (qv (qB rfl ?_));refine wk ?_;refine qQ (qQ (ww ?_));refine qv (qw (qu (qe ?_)));refine qC rfl (qH qh (mlist bf n F) rfl ?_);rintro _ _ ⟨a,cap,rfl,rfl⟩;refine qi ?_;refine qx (qv (qL ?_));refine qM rfl rfl (qD qg) _ ⟨a,cap,F,fun j=>(hF1 j).trans (hFin j),rfl,rfl⟩ qm
theorem sp204 (vv n:Nat) (P:Nat→List Nat) (gn:Nat→Nat) (A:HProp) (K:SrcOk vv n P gn A):Spec Tryz.prog 204 #[.iface 64 (ptr vv)]
    (fun T=>A::T) (fun r T L=>r=.int .i64 n∧L=A::T):=by
  refine spec_of (n:=7) (args:=[.iface 64 (ptr vv)]) Tryz.func204 rfl rfl rfl rfl fun T=>?_;have hfew:=K.few;refine qw (qu (qo (qx (qv (qw (qu (qe ?_)))))));refine qC rfl (xA qh (K.commits) rfl rfl ?_);rintro _ _ ⟨rfl,rfl⟩;refine qb (zu (r:=(n:Int)) rfl rfl (by split<;>omega)) ?_;refine qb (yE (r:=(n:Int)) rfl rfl (by split<;>omega)) ?_;refine qi ?_;refine qx (qv (qL ?_));refine qM rfl rfl (qD qg) _ ⟨rfl,rfl⟩ qm
theorem sp198y (vv n:Nat) (P:Nat→List Nat) (gn:Nat→Nat) (A:HProp) (K:SrcOk vv n P gn A) (aa ab a1:Option Addr) (ca cb c1 x y:Nat) (hx:x<n) (hy:y<n):Spec Tryz.prog 198 #[.iface 64 (ptr vv),.slice a1 2 c1]
    (fun T=>rds (.slice a1 2 c1) 1 [.slice aa 1 ca,.slice ab 1 cb]::rdi aa 1 ca [x]::rdi ab 1 cb [y]::A::T) (fun r T L=>r=.int .i64 0∧L=rds (.slice a1 2 c1) 1 [.slice aa 1 ca,.slice ab 1 cb]::rdi aa 1 ca [x]::rdi ab 1 cb [y]::A::T):=by
  refine spec_of (n:=33) (args:=[.iface 64 (ptr vv),.slice a1 2 c1]) Tryz.func198 rfl rfl rfl rfl fun T=>?_;refine qw (qu (qo (qx (qv (qw (qw (qu ?_)))))));refine qe ?_;refine qb (yj rfl rfl rfl) ?_;refine qx (qv (qB rfl ?_));refine qF (qv (qw (qw (qu (qe ?_)))));refine qb (qI rfl) ?_;refine qb wH ?_;refine qx (qv (qJ (q7 (fun m v L=>∃(i:Nat),2-i=m∧(∃v0,v=ups v0 [(0,.iface 64 (ptr vv)),(11,.slice a1 2 c1),(12,.int .i64 2),(13,.int .i64 i)])∧(i≤2)∧L=rds (.slice a1 2 c1) 1 [.slice aa 1 ca,.slice ab 1 cb]::rdi aa 1 ca [x]::rdi ab 1 cb [y]::A::T) _ _ ⟨0,rfl,⟨_,At.eq (.cons rfl (.cons rfl (.cons rfl (.cons rfl .nil))))⟩,by omega,rfl⟩ qh ?_)));rintro m _ _ ⟨i,rfl,⟨v0,rfl⟩,hi,rfl⟩;refine qw (qu ?_);refine wG rfl (wj rfl rfl) (fun h14=>?_) (fun h14=>?_)
  · obtain ⟨a2,c2,z,hz,hv,hd⟩:∃a2 c2 z,z<n∧([.slice aa 1 ca,.slice ab 1 cb]:List Value)[i]?=some (.slice a2 1 c2)∧∀w,Sat (rds (.slice a1 2 c1) 1 [.slice aa 1 ca,.slice ab 1 cb]::rdi aa 1 ca [x]::rdi ab 1 cb [y]::A::T) w→Sat (rdi a2 1 c2 [z]::rds (.slice a1 2 c1) 1 [.slice aa 1 ca,.slice ab 1 cb]::rdi aa 1 ca [x]::rdi ab 1 cb [y]::A::T) w:=by
      rcases (show i=0∨i=1 by omega) with rfl | rfl
      · exact ⟨aa,ca,x,hx,rfl,fun w h=>xM (.there .here) h⟩
      · exact ⟨ab,cb,y,hy,rfl,fun w h=>xM (.there (.there .here)) h⟩
    refine wE hd ?_;refine wK (a:=a1) (xs:=[.slice aa 1 ca,.slice ab 1 cb]) qr (by simp) fun b off l E fz ha hl0=>?_;subst ha;refine qx (qv (qw (qN rfl ?_)));refine qF (qv (qw (qJ (qw (qu (qb (wz rfl rfl rfl qd) ?_))))));refine qb (q8 rfl ((hl0 i (by show i<2;omega)).trans hv)) ?_;refine qi ?_;refine qx (qv (qw (qu (qe ?_))));refine qb (qI rfl) ?_;refine qb wH ?_;refine qx (qv (qJ (q7 (fun m v L=>∃(k:Nat),1-k=m∧(∃v0,v=ups v0 [(0,.iface 64 (ptr vv)),(11,.slice (some ⟨b,off,none⟩) 2 c1),(12,.int .i64 2),(13,.int .i64 i),(17,.slice a2 1 c2),(18,.int .i64 1),(19,.int .i64 k)])∧(k≤1)∧L=rdi a2 1 c2 [z]::rds (.slice (some ⟨b,off,none⟩) 2 c1) 1 [.slice aa 1 ca,.slice ab 1 cb]::rdi aa 1 ca [x]::rdi ab 1 cb [y]::A::T) _ _ ⟨0,rfl,⟨_,At.eq (.cons rfl (.cons rfl (.cons rfl (.cons rfl (.cons rfl (.cons rfl (.cons rfl .nil)))))))⟩,by omega,rfl⟩ qh ?_)));rintro m _ _ ⟨k,rfl,⟨v0,rfl⟩,hk,rfl⟩;refine qw (qu ?_);refine wG rfl (wj rfl rfl) (fun h20=>?_) (fun h20=>?_)
    · refine wK (a:=a2) (xs:=ints [z]) qr (by simp) fun b2 off2 l2 E2 fz2 ha2 hl=>?_;subst ha2;refine qx (qv (qw (qN rfl ?_)));refine qF (qv (qw (qJ (qw (qu (qb (wz rfl rfl rfl qd) ?_))))));refine qb (q8 rfl ((hl _ (by rw [List.length_map];show k<1;omega)).trans (w5 (l:=[z]) 0 (by show k<1;omega)))) ?_;refine qi ?_;refine qx (qv (qw (qu (qe ?_))));refine wq rfl (wj rfl rfl) qd ?_;refine qe ?_;refine qq (qK qg) ?_;refine qq (qK qg) ?_;refine xr (qG rfl rfl rfl rfl) rfl (qH qh (sp204 vv n P gn A K) rfl ?_);rintro _ _ ⟨rfl,rfl⟩;refine wR (qG rfl rfl rfl rfl) rfl (w9 rfl rfl) (by obtain rfl:k=0:=qd;show ¬((n:Int)≤((z:Nat):Int));omega) ?_;refine qb (qW rfl qg) ?_;refine qx (qv (qB rfl ?_));refine qF (qX (qv (qu (qb (wa rfl rfl qd) ?_))));refine qe ?_;refine qx ?_;refine qT _ _ ⟨k+1,rfl,⟨_,At.eq (.cons rfl (.cons rfl (.cons rfl (.cons rfl (.cons rfl (.cons rfl (.cons rfl .nil)))))))⟩,by omega,rfl⟩ qd qh
    · refine qx (qv (qw (qB rfl ?_)));refine wk ?_;refine qQ (qQ (ww ?_));refine qX (qv (qu (qb (wa rfl rfl qd) ?_)));refine qe ?_;refine qx ?_;refine qT _ _ ⟨i+1,rfl,⟨_,At.eq (.cons rfl (.cons rfl (.cons rfl (.cons rfl .nil))))⟩,by omega,rfl⟩ qd qh
  · refine qx (qv (qw (qB rfl ?_)));refine wk ?_;refine qQ (qQ (ww ?_));refine qv (qw (qu (qo (qx (qv (qL ?_))))));refine qM rfl rfl (qD qg) _ ⟨rfl,rfl⟩ qm
theorem sp198n (vv n:Nat) (P:Nat→List Nat) (gn:Nat→Nat) (A:HProp) (K:SrcOk vv n P gn A) (aa ab a1:Option Addr) (ca cb c1 x y:Nat) (hx:n≤x) (hxm:x≤100000):Spec Tryz.prog 198 #[.iface 64 (ptr vv),.slice a1 2 c1]
    (fun T=>rds (.slice a1 2 c1) 1 [.slice aa 1 ca,.slice ab 1 cb]::rdi aa 1 ca [x]::rdi ab 1 cb [y]::A::T) (fun r T L=>r=.int .i64 9∧L=rds (.slice a1 2 c1) 1 [.slice aa 1 ca,.slice ab 1 cb]::rdi aa 1 ca [x]::rdi ab 1 cb [y]::A::T):=by
  refine spec_of (n:=33) (args:=[.iface 64 (ptr vv),.slice a1 2 c1]) Tryz.func198 rfl rfl rfl rfl fun T=>?_;refine qw (qu (qo (qx (qv (qw (qw (qu ?_)))))));refine qe ?_;refine qb (yj rfl rfl rfl) ?_;refine qx (qv (qB rfl ?_));refine qF (qv (qw (qw (qu (qe ?_)))));refine qb (qI rfl) ?_;refine qb wH ?_;refine qx (qv (qJ (q7 (fun m v L=>0=m∧(∃v0,v=ups v0 [(0,.iface 64 (ptr vv)),(11,.slice a1 2 c1),(12,.int .i64 2),(13,.int .i64 0)])∧L=rds (.slice a1 2 c1) 1 [.slice aa 1 ca,.slice ab 1 cb]::rdi aa 1 ca [x]::rdi ab 1 cb [y]::A::T) _ _ ⟨rfl,⟨_,At.eq (.cons rfl (.cons rfl (.cons rfl (.cons rfl .nil))))⟩,rfl⟩ qh ?_)));rintro m _ _ ⟨rfl,⟨v0,rfl⟩,rfl⟩;refine qw (qu (xb rfl (wj rfl rfl) (by decide) ?_));refine qx (qv (qw (qN rfl ?_)));refine qF (qv (qw (qJ (qw (qu (wK (a:=a1) (xs:=[.slice aa 1 ca,.slice ab 1 cb]) qr (by simp) fun b off l E fz ha hl0=>?_))))));subst ha;refine qb (wz (k:=0) rfl rfl rfl (by decide)) ?_;refine qb (q8 rfl ((hl0 0 (by simp)).trans rfl)) ?_;refine qi ?_;refine qx (qv (qw (qu (qe ?_))));refine qb (qI rfl) ?_;refine qb wH ?_;refine qx (qv (qJ (q7 (fun m v L=>0=m∧(∃v0,v=ups v0 [(0,.iface 64 (ptr vv)),(17,.slice aa 1 ca),(18,.int .i64 1),(19,.int .i64 0)])∧L=rds (.slice (some ⟨b,off,none⟩) 2 c1) 1 [.slice aa 1 ca,.slice ab 1 cb]::rdi aa 1 ca [x]::rdi ab 1 cb [y]::A::T) _ _ ⟨rfl,⟨_,At.eq (.cons rfl (.cons rfl (.cons rfl (.cons rfl .nil))))⟩,rfl⟩ qh ?_)));rintro m _ _ ⟨rfl,⟨v0,rfl⟩,rfl⟩;refine qw (qu (xb rfl (wj rfl rfl) (by decide) ?_));refine qx (qv (qw (qN rfl ?_)));refine qF (qv (qw (qJ (qw (qu (wK (a:=aa) (xs:=ints [x]) qr (by simp) fun b2 off2 l2 E2 fz2 ha2 hl=>?_))))));subst ha2;refine qb (wz (k:=0) rfl rfl rfl (by decide)) ?_;refine qb (q8 rfl ((hl 0 (by simp)).trans rfl)) ?_;refine qi ?_;refine qx (qv (qw (qu (qe ?_))));refine wq rfl (wj rfl rfl) qd ?_;refine qe ?_;refine qq (qK qg) ?_;refine qq (qK qg) ?_;refine xr (qG rfl rfl rfl rfl) rfl (qH qh (sp204 vv n P gn A K) rfl ?_);rintro _ _ ⟨rfl,rfl⟩;refine yq (qG rfl rfl rfl rfl) rfl (w9 rfl rfl) qd ?_;refine qb (qW rfl qg) ?_;refine qx (qv (qN rfl ?_));refine qw (qu (qo (qx (qv (qL ?_)))));refine wQ (wt (wt (wQ (wQ (wt (wt (wQ ?_)))))));refine wt ?_;refine qM rfl rfl (qD qg) _ ⟨rfl,rfl⟩ qm
theorem sp197y (vv n:Nat) (P:Nat→List Nat) (gn:Nat→Nat) (A:HProp) (K:SrcOk vv n P gn A) (aa ab:Option Addr) (ca cb x y:Nat) (hx:x<n) (hy:y<n):Spec Tryz.prog 197 #[.iface 64 (ptr vv),.slice aa 1 ca,.slice ab 1 cb]
    (fun T=>tabA::rdi aa 1 ca [x]::rdi ab 1 cb [y]::A::T) (fun r T L=>∃a cap F,(∀j,F j=true↔(Rch P x j∧Rch P y j∧¬Stale P x y j))∧r=.tuple #[.slice a (listS n F).length cap,.int .i64 0]∧L=rdi a (listS n F).length cap (listS n F)::tabA::A::T):=by
  refine spec_of (n:=51) (args:=[.iface 64 (ptr vv),.slice aa 1 ca,.slice ab 1 cb]) Tryz.func197 rfl rfl rfl rfl fun T=>?_;have hfew:=K.few;have h8:∀k q,(fun _=>none:Nat→Option Nat) k=some q→q<8:=fun k q h=>by cases h
  have h9:=((PI.empty (n:=n) (P:=P) (l:=x) (r:=y)).add (c:=x) (q:=1) hx (by decide) (by simp) (fun _=>.refl x) (fun h=>absurd h (by decide)) (fun h=>absurd h (by decide))).b8;obtain ⟨hI,hI0,hI1⟩:=PI.start (P:=P) hx hy;refine qw (qu (qo (qo (qx (qv (qw (qw ?_)))))));refine qu (qe ?_);refine qe ?_;refine qe ?_;refine qC rfl (qS rfl (by first | decide | simp) (.one qg rfl (.one qg rfl .nil)) fun b17=>?_);refine wE (fun w h=>xa (m:=2) (cap:=2) (k:=1) (xs:=[.slice aa 1 ca,.slice ab 1 cb]) (rest:=[]) h rfl (by decide)) ?_;refine qC rfl (qH qh (sp198y vv n P gn A K aa ab (some ⟨b17,0,none⟩) ca cb 2 x y hx hy) rfl ?_);rintro _ _ ⟨rfl,rfl⟩;refine qi ?_;refine qx (qv (qw (qu (qe ?_))));refine wq rfl (wB rfl rfl) (by simp) ?_;refine qx (qv (qB rfl ?_));refine qF (qv (qw (qu (qe ?_))));refine qe ?_;refine qC rfl (qH qh (sp204 vv n P gn A K) rfl ?_);rintro _ _ ⟨rfl,rfl⟩;refine qC rfl (y8 (κ:=Int) fun b25=>?_);refine qC rfl (qH qh (sp275) rfl ?_);rintro _ _ ⟨bq,rfl,rfl⟩;refine qb (wy (.one qg rfl (.one qg rfl (.one qg rfl (.one qg rfl .nil))))) ?_;refine qC rfl (wx rfl fun b28=>?_);refine qi ?_;refine qx (qv (qw (qw (qu (qe ?_)))));refine qb (qI rfl) ?_;refine qb wH ?_;refine qx (qv (qJ (q7 (fun m v L=>∃(k:Nat) (mm1:List (Int×Value)) (G1:Nat→Option Nat) (xs1:List Nat) (fr1:Int),1-k=m∧(∃v0,v=ups v0 [(0,.iface 64 (ptr vv)),(2,.slice ab 1 cb),(9,ptr b28),(29,.slice aa 1 ca),(30,.int .i64 1),(31,.int .i64 k)])∧(k≤1)∧(MG mm1 G1)∧(k=0→G1=(fun _=>none)∧xs1=[]∧fr1=0)∧(k=1→G1=(putG (fun _=>none) x 1)∧xs1=(addX (fun _=>none) x [])∧fr1=(addF none 1 0))∧L=tabA::rdi aa 1 ca [x]::rdi ab 1 cb [y]::pnt b28 vv n b25 bq fr1::mpo b25 mm1::quex 442 479 bq xs1::A::T) _ _ ⟨0,[],(fun _=>none),[],0,rfl,⟨_,At.eq (.cons rfl (.cons rfl (.cons rfl (.cons rfl (.cons rfl (.cons rfl .nil))))))⟩,by omega,fun _=>rfl,fun _=>⟨rfl,rfl,rfl⟩,fun h=>(by cases h),rfl⟩ qh ?_)));rintro m _ _ ⟨k,mm1,G1,xs1,fr1,rfl,⟨v0,rfl⟩,hk,hm1,h0,h1,rfl⟩;refine qw (qu ?_);refine wG rfl (wj rfl rfl) (fun h32=>?_) (fun h32=>?_)
  · obtain rfl:k=0:=by omega
    obtain ⟨rfl,rfl,rfl⟩:=h0 rfl;refine wK (a:=aa) (xs:=ints [x]) qr (by simp) fun b off l E fz ha hl=>?_;subst ha;refine qx (qv (qw (qN rfl ?_)));refine qF (qv (qw (qJ (qw (qu (qb (wz (k:=0) rfl rfl rfl (by decide)) ?_))))));refine qb (q8 rfl ((hl 0 (by simp)).trans rfl)) ?_;refine qi ?_;refine qx (qv (qu (qe ?_)));refine qe ?_;refine qC rfl (qH qh (padd b28 vv n b25 bq 0 mm1 (fun _=>none) [] x 1 hm1 h8 hx (by decide) (by decide) (by simp)) rfl ?_);rintro _ _ ⟨mm2,hm2,rfl,rfl⟩;refine qx (qX (qv (qu (qb (wa rfl rfl qd) ?_))));refine qe ?_;refine qx ?_;refine qT _ _ ⟨1,mm2,_,_,_,rfl,⟨_,At.eq (.cons rfl (.cons rfl (.cons rfl (.cons rfl (.cons rfl (.cons rfl .nil))))))⟩,by omega,hm2,fun h=>(by cases h),fun _=>⟨rfl,rfl,rfl⟩,rfl⟩ qd qh
  · obtain rfl:k=1:=by omega
    obtain ⟨rfl,rfl,rfl⟩:=h1 rfl;refine qx (qv (qw (qB rfl ?_)));refine wk ?_;refine qQ (qQ (ww ?_));refine qv (qw (qw (qu (qe ?_))));refine qb (qI rfl) ?_;refine qb wH ?_;refine qx (qv (qJ (q7 (fun m v L=>∃(k:Nat) (mm1:List (Int×Value)) (G1:Nat→Option Nat) (xs1:List Nat) (fr1:Int),1-k=m∧(∃v0,v=ups v0 [(9,ptr b28),(39,.slice ab 1 cb),(40,.int .i64 1),(41,.int .i64 k)])∧(k≤1)∧(MG mm1 G1)∧(k=0→G1=(putG (fun _=>none) x 1)∧xs1=(addX (fun _=>none) x [])∧fr1=(addF none 1 0))∧(k=1→G1=(putG (putG (fun _=>none) x 1) y 2)∧xs1=(addX (putG (fun _=>none) x 1) y (addX (fun _=>none) x []))∧fr1=(addF ((putG (fun _=>none) x 1) y) 2 (addF none 1 0)))∧L=tabA::rdi aa 1 ca [x]::rdi ab 1 cb [y]::pnt b28 vv n b25 bq fr1::mpo b25 mm1::quex 442 479 bq xs1::A::T) _ _ ⟨0,mm1,_,_,_,rfl,⟨_,At.eq (.cons rfl (.cons rfl (.cons rfl (.cons rfl .nil))))⟩,by omega,hm1,fun _=>⟨rfl,rfl,rfl⟩,fun h=>(by cases h),rfl⟩ qh ?_)));rintro m _ _ ⟨k,mm1,G1,xs1,fr1,rfl,⟨v0,rfl⟩,hk,hm1,h0,h1,rfl⟩;refine qw (qu ?_);refine wG rfl (wj rfl rfl) (fun h42=>?_) (fun h42=>?_)
    · obtain rfl:k=0:=by omega
      obtain ⟨rfl,rfl,rfl⟩:=h0 rfl;refine wK (a:=ab) (xs:=ints [y]) qr (by simp) fun b off l E fz ha hl=>?_;subst ha;refine qx (qv (qw (qN rfl ?_)));refine qF (qv (qw (qJ (qw (qu (qb (wz (k:=0) rfl rfl rfl (by decide)) ?_))))));refine qb (q8 rfl ((hl 0 (by simp)).trans rfl)) ?_;refine qi ?_;refine qx (qv (qu (qe ?_)));refine qe ?_;refine qC rfl (qH qh (padd b28 vv n b25 bq (addF none 1 0) mm1 (putG (fun _=>none) x 1) (addX (fun _=>none) x []) y 2 hm1 h9 hy (by decide) (by decide) (by simp [addX])) rfl ?_);rintro _ _ ⟨mm2,hm2,rfl,rfl⟩;refine qx (qX (qv (qu (qb (wa rfl rfl qd) ?_))));refine qe ?_;refine qx ?_;refine qT _ _ ⟨1,mm2,_,_,_,rfl,⟨_,At.eq (.cons rfl (.cons rfl (.cons rfl (.cons rfl .nil))))⟩,by omega,hm2,fun h=>(by cases h),fun _=>⟨rfl,rfl,rfl⟩,rfl⟩ qd qh
    · obtain rfl:k=1:=by omega
      obtain ⟨rfl,rfl,rfl⟩:=h1 rfl;refine qx (qv (qw (qB rfl ?_)));refine wk ?_;refine qQ (qQ (ww ?_));refine qv (qw (qu (qe ?_)));refine qC rfl (qH qh (sp277 vv n P gn A K b28 b25 bq x y (addF ((putG (fun _=>none) x 1) y) 2 (addF none 1 0)) mm1 (putG (putG (fun _=>none) x 1) y 2) (addX (putG (fun _=>none) x 1) y (addX (fun _=>none) x [])) hm1 hI hI0 hI1) rfl ?_);rintro _ _ ⟨a,cap,F,hF,rfl,rfl⟩;refine qi ?_;refine qo (qx (qv (qL ?_)));refine wu rfl rfl (qD qg) (qD qg) _ ⟨a,cap,F,hF,rfl,rfl⟩ qm
theorem sp197n (vv n:Nat) (P:Nat→List Nat) (gn:Nat→Nat) (A:HProp) (K:SrcOk vv n P gn A) (aa ab:Option Addr) (ca cb x y:Nat) (hx:n≤x) (hxm:x≤100000):Spec Tryz.prog 197 #[.iface 64 (ptr vv),.slice aa 1 ca,.slice ab 1 cb]
    (fun T=>tabA::rdi aa 1 ca [x]::rdi ab 1 cb [y]::A::T) (fun r T L=>r=.tuple #[.slice none 0 0,.int .i64 9]∧L=tabA::A::T):=by
  refine spec_of (n:=51) (args:=[.iface 64 (ptr vv),.slice aa 1 ca,.slice ab 1 cb]) Tryz.func197 rfl rfl rfl rfl fun T=>?_;refine qw (qu (qo (qo (qx (qv (qw (qw ?_)))))));refine qu (qe ?_);refine qe ?_;refine qe ?_;refine qC rfl (qS rfl (by first | decide | simp) (.one qg rfl (.one qg rfl .nil)) fun b17=>?_);refine wE (fun w h=>xa (m:=2) (cap:=2) (k:=1) (xs:=[.slice aa 1 ca,.slice ab 1 cb]) (rest:=[]) h rfl (by decide)) ?_;refine qC rfl (qH qh (sp198n vv n P gn A K aa ab (some ⟨b17,0,none⟩) ca cb 2 x y hx hxm) rfl ?_);rintro _ _ ⟨rfl,rfl⟩;refine qi ?_;refine qx (qv (qw (qu (qe ?_))));refine xb rfl (wB rfl rfl) (by decide) ?_;refine qx (qv (qN rfl ?_));refine qw (qu (qe ?_));refine qo (qi ?_);refine qx (qv (qL ?_));refine wt ?_;refine wu rfl rfl (qD qg) (qD qg) _ ⟨rfl,rfl⟩ qm
theorem sp113y (vv n:Nat) (P:Nat→List Nat) (gn:Nat→Nat) (A:HProp) (K:SrcOk vv n P gn A) (x y:Nat) (hx:x<n) (hy:y<n):Spec Tryz.prog 113 #[.iface 64 (ptr vv),.int .i64 x,.int .i64 y]
    (fun T=>tabA::A::T) (fun r T L=>∃a cap F,(∀j,F j=true↔(Rch P x j∧Rch P y j∧¬Stale P x y j))∧r=.tuple #[.slice a (listS n F).length cap,.int .i64 0]∧L=rdi a (listS n F).length cap (listS n F)::tabA::A::T):=by
  refine spec_of (n:=16) (args:=[.iface 64 (ptr vv),.int .i64 x,.int .i64 y]) Tryz.func113 rfl rfl rfl rfl fun T=>?_;refine qw (qu (qo (qo (qx (qv (qw (qu ?_)))))));refine qe ?_;refine qe ?_;refine qC rfl (qS rfl (by first | decide | simp) (.one qg rfl .nil) fun b10=>?_);refine wE (fun w h=>xa (m:=1) (cap:=1) (k:=1) (xs:=ints [x]) (rest:=[]) h rfl (by decide)) ?_;refine qe ?_;refine qC rfl (qS rfl (by first | decide | simp) (.one qg rfl .nil) fun b12=>?_);refine wE (fun w h=>xa (m:=1) (cap:=1) (k:=1) (xs:=ints [y]) (rest:=[]) h rfl (by decide)) ?_;refine qC rfl (qH qh (sp197y vv n P gn A K (some ⟨b10,0,none⟩) (some ⟨b12,0,none⟩) 1 1 x y hx hy) rfl ?_);rintro _ _ ⟨a,cap,F,hF,rfl,rfl⟩;refine qb (qP rfl) ?_;refine qb (qP rfl) ?_;refine qi ?_;refine qi ?_;refine qx (qv (qL ?_));refine wu rfl rfl (qD qg) (qD qg) _ ⟨a,cap,F,hF,rfl,rfl⟩ qm
theorem sp113n (vv n:Nat) (P:Nat→List Nat) (gn:Nat→Nat) (A:HProp) (K:SrcOk vv n P gn A) (x y:Nat) (hx:n≤x) (hxm:x≤100000):Spec Tryz.prog 113 #[.iface 64 (ptr vv),.int .i64 x,.int .i64 y]
    (fun T=>tabA::A::T) (fun r T L=>r=.tuple #[.slice none 0 0,.int .i64 9]∧L=tabA::A::T):=by
  refine spec_of (n:=16) (args:=[.iface 64 (ptr vv),.int .i64 x,.int .i64 y]) Tryz.func113 rfl rfl rfl rfl fun T=>?_;refine qw (qu (qo (qo (qx (qv (qw (qu ?_)))))));refine qe ?_;refine qe ?_;refine qC rfl (qS rfl (by first | decide | simp) (.one qg rfl .nil) fun b10=>?_);refine wE (fun w h=>xa (m:=1) (cap:=1) (k:=1) (xs:=ints [x]) (rest:=[]) h rfl (by decide)) ?_;refine qe ?_;refine qC rfl (qS rfl (by first | decide | simp) (.one qg rfl .nil) fun b12=>?_);refine wE (fun w h=>xa (m:=1) (cap:=1) (k:=1) (xs:=ints [y]) (rest:=[]) h rfl (by decide)) ?_;refine qC rfl (qH qh (sp197n vv n P gn A K (some ⟨b10,0,none⟩) (some ⟨b12,0,none⟩) 1 1 x y hx hxm) rfl ?_);rintro _ _ ⟨rfl,rfl⟩;refine qb (qP rfl) ?_;refine qb (qP rfl) ?_;refine qi ?_;refine qi ?_;refine qx (qv (qL ?_));refine wu rfl rfl (qD qg) (qD qg) _ ⟨rfl,rfl⟩ qm
end
end Go.Proofs.YtdibpoheeffioaaGreatDoor
