import Derived.Test.YthpplhmhgcenkaaGreatDoorTk13
section
namespace Eng.Tk
open Go Go.Proofs
set_option maxRecDepth 1000000
variable [Env] [xx]
theorem lj:G o7:=r (c Om (c Wh (c Ov (c Wk (c V4 (c AQ (c iQ (c HH (c Sw (c AF (c A8 (c li (c A9 (c AA (c HI (c UV (c y3 (c Ou (c Ah (c Ow (c Oi (c Oj (c Qu (c Oo (c Oq (c Sv (c Fu (c dR (c cu (c Sx (c SN (c Fo (c Sy (c cz (c ca (c ce (c dS (c c7 (c Fp (c S1 (c SO (c Fq (c S2 (c c8 (c cf (c dT (c ch (c c9 (c Fs (c S3 (c cA (c ci (c cj (c cB n))))))))))))))))))))))))))))))))))))))))))))))))))))))
theorem lk:G oF:=r (c Om (c On (c Wh (c Ov (c Wk (c Cb (c ZP (c mO (c Cd (c V4 (c AQ (c iQ (c cM (c Sw (c AF (c cN (c cO (c A8 (c li (c cP (c fE (c cQ (c fI (c BU (c A9 (c cS (c AA (c SP (c cn (c cr (c SA n)))))))))))))))))))))))))))))))
theorem lw:G oL:=r (c Om (c On (c Wh (c SM (c Ov (c Wk (c dM (c bY (c OB (c ZP (c V4 (c AQ (c fD (c HH (c cM (c Sw (c eX (c g817 (c AF (c cN (c cO (c A8 (c cP (c ff (c gg (c iV (c fh (c g870 (c AG (c fF (c fG (c cQ (c g906 (c iW (c lf (c BU (c g924 (c A9 (c fJ (c cS (c AA (c Ft (c Fy n)))))))))))))))))))))))))))))))))))))))))))
theorem lz:G oQ:=r (c Om (c Wh (c Ov (c Wk (c V4 (c AQ (c HH (c Sw (c AF (c A8 (c A9 (c AA (c UV (c Ow (c Oi (c QJ (c Oj (c Qu (c Oo (c Oq (c Sv (c Fu (c dR (c cu (c Sx (c SN (c Fo (c Sy (c cz (c ca (c ce (c dS (c c7 (c Fp (c S1 (c SO (c Fq (c S2 (c c8 (c cf (c dT (c ch (c c9 (c Fs (c S3 (c cA (c ci (c cj (c cB (c Ft (c Fy n)))))))))))))))))))))))))))))))))))))))))))))))))))
theorem l5:G oT:=r (c Om (c On (c Wh (c Ov (c Wk (c Cb (c ZP (c Cd (c V4 (c AQ (c cM (c Sw (c AF (c cN (c cO (c A8 (c cP (c fE (c cQ (c fI (c BU (c A9 (c cS (c AA (c SP (c cn (c cr (c SA (c Ft (c Fy n))))))))))))))))))))))))))))))
theorem l6:G oW:=r (c lO (c fw (c g510 (c g511 (c dw (c dx (c my (c mL (c mz (c OA (c SL (c g607 (c AC (c eW (c fa (c fb (c g660 (c g661 (c iY (c g669 (c g683 n)))))))))))))))))))))
theorem g684:G e684:=r (c lO (c g510 (c g511 (c dw (c dx (c mL (c mz (c OA (c SL (c AC (c g671 (c g683 n))))))))))))
theorem g982:G e982:=r (c F5 (c y4 (c Wl (c Wh (c Ak (c A6 (c g709 (c UZ (c g731 (c BY (c SJ (c g747 (c Cc (c Fl (c iZ (c UY (c mM (c AN (c Wk (c g778 (c Cb (c AO (c g782 (c bY (c g788 (c ZP (c Fm (c AP (c V4 (c fD (c AG (c fJ (c g959 (c AH (c A7 n)))))))))))))))))))))))))))))))))))
theorem g1450:G oA:=r (c Xb (c F5 (c y4 (c Wl (c Wm (c Wh (c Ak (c A6 (c BY (c SJ (c Cc (c Fl (c iZ (c UY (c mM (c AN (c Wk (c Cb (c AO (c ZP (c Fm (c AP (c V4 (c A7 (c g983 (c HI (c bZ (c cV (c y3 (c dz (c SK (c dN (c dO (c dA (c dB (c Oi (c dP (c dC (c dD (c dE (c Oj (c Qu (c dQ (c dF (c Oo (c F7 (c F8 (c lj (c m6 n)))))))))))))))))))))))))))))))))))))))))))))))))
end Eng.Tk
end
